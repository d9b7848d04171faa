/- Texts of this claim,joined. -/
import Derived.Test.YtffjgpoadfkjlaaGreatDoorQO
import Derived.ProofKit
import Derived.JoinedOf
import Derived.Deep.Slices
import Derived.SizedLaws
import Derived.Test.YtffjgpoadfkjlaaGreatDoorRows
import Derived.Test.YtffjgpoadfkjlaaGreatDoorCards
import Derived.Test.YtffjgpoadfkjlaaGreatDoorTie
import Derived.LaidMore
import Derived.OpenShut
import Derived.Stop.Joined
import Derived.SevenTiedAt
set_option linter.unusedSimpArgs false
set_option linter.unusedVariables false
set_option maxRecDepth 100000
set_option maxHeartbeats 4000000
namespace Go.Proofs.YtffjgpoadfkjlaaGreatDoor
open Go.PF Go.RowKit Go.Ord
attribute [local irreducible] TW CW KW DW
variable {w:World} {d:Dist} {l:List Ev} {N:Net} {ws:List (List Int)}
theorem spI {s:Spt} (h1: -10≤s.1∧s.1≤10) (h2: -10≤s.2∧s.2≤10) {F:Nat→Prop}:sptT.rep F w (spV s) s:=⟨rfl,i64_small (by omega) (by omega),i64_small (by omega) (by omega)⟩
theorem litS1 {g:Nat} {t:TypeId} (a:Spt) (ha: -10≤a.1∧a.1≤10∧ -10≤a.2∧a.2≤10) (h:Blk w g t (spV a)):SPs w (.slice (some ⟨g,0,none⟩) 1 1) [a]:=litP (T:=sptT) (by decide) [(spV a,a)] h rfl (fun p hp=>by rw [List.mem_singleton] at hp; subst hp; exact spI ⟨ha.1,ha.2.1⟩ ha.2.2) (by simp)
theorem litS2 {g:Nat} {t:TypeId} (a b:Spt) (ha: -10≤a.1∧a.1≤10∧ -10≤a.2∧a.2≤10) (hb: -10≤b.1∧b.1≤10∧ -10≤b.2∧b.2≤10) (h:Blk w g t (spV a++spV b)):SPs w (.slice (some ⟨g,0,none⟩) 2 2) [a,b]:=litP (T:=sptT) (by decide) [(spV a,a),(spV b,b)] h rfl (fun p hp=>by
 simp only [List.mem_cons,List.not_mem_nil,or_false] at hp
 rcases hp with rfl|rfl
 ·exact spI ⟨ha.1,ha.2.1⟩ ha.2.2
 ·exact spI ⟨hb.1,hb.2.1⟩ hb.2.2) (by simp)
theorem knd1 (f t:Int) (hf: -1000000≤f∧f≤1000000) (ht: -1000000≤t∧t≤1000000):Knd.OK (.at 1 f t):=⟨i64_small (by decide) (by decide),i64_small hf.1 hf.2,i64_small ht.1 ht.2⟩
theorem head_c (ht:Tabs w):Gives Tryz.prog 4 #[] w fun u w'=>Below w.heap.size w w'∧u= .bool true:=by
 refine gv (f:=4) ?_
 refine rnT ?_
 refine TW.cl rfl (example_c) ?_
 rintro y w1 ⟨b1,v,rfl,hN1⟩
 have hone:(v.cells.all fun x=>x.oneCell')=true:=by
  obtain ⟨⟨A1,c1,e1⟩,⟨A2,c2,e2⟩,⟨A3,c3,e3⟩,⟨A4,c4,e4⟩,⟨A5,c5,e5⟩,⟨A6,c6,e6⟩⟩:=NetIn.form hN1
  simp only [NV.cells,e1,e2,e3,e4,e5,e6]
  rfl
 refine TW.newVar rfl zc29 rfl sz29 rfl hone ?_
 rintro g1 w2 f2
 refine rnT ?_
 have hN2:=net_step hN1 f2.below
 have b2:=b1.step f2.below
 have hB2:=f2.blk
 refine TW.ldS rfl (fun _ _ hv=>hB2.fld hv) ?_
 refine TW.cl rfl (dist_c (ht.below b2) hN2 sound0.cons) ?_
 rintro dv w3 ⟨b3,hd3⟩
 rw [show N0.offs.length=2 from rfl,dist0] at hd3
 refine rnT ?_
 refine TW.buildSlice 37 _ rfl rfl rfl eo30 (Args.cons rfl ct Args.nil) rfl rfl rfl rfl rfl ?_
 rintro g4 w4 f4
 refine rnT ?_
 have hS4:SD w4 (.slice (some ⟨g4,0,none⟩) 1 1) [[]]:=lit_rows [(.slice none 0 0,[])] f4.blk rfl (by simp; exact SL.nil _ _ _) (by simp)
 refine TW.build [1] _ (spV (0,-1)) rfl rfl rfl (Args.cons rfl ct Args.nil) (by kernel_rfl) ?_
 refine TW.newVar rfl zc49 rfl sz49 rfl rfl ?_
 rintro g5 w5 f5
 refine rnT ?_
 refine TW.build [0,1] _ (spV (1,-1)) rfl rfl rfl (Args.cons rfl ct (Args.cons rfl ct Args.nil)) (by kernel_rfl) ?_
 refine TW.newVar rfl zc49 rfl sz49 rfl rfl ?_
 rintro g6 w6 f6
 refine rnT ?_
 refine TW.build [0] _ (spV (-1,0)) rfl rfl rfl (Args.cons rfl ct Args.nil) (by kernel_rfl) ?_
 refine TW.newVar rfl zc49 rfl sz49 rfl rfl ?_
 rintro g7 w7 f7
 refine rnT ?_
 refine CW.draw mixed (by kernel_rfl) ?_
 have b57:=f5.below.step (f6.below.step f7.below)
 have b37:=f4.below.step b57
 have b27:=b3.step b37
 have b7:=b2.step b27
 have hN7:=net_step hN2 b27
 have hd7:=sd_step hd3 b37
 have hS7:=sd_step hS4 b57
 have hB1:=hB2.next b27
 have hBa:=f5.blk.next (f6.below.step f7.below)
 have hBb:=f6.blk.next f7.below
 have hBx:=f7.blk
 have ht7:=ht.below b7
 have hpos: ∀ {W:World},Below w7.heap.size w7 W→ ∀ {t:Int} {z:List Spt},possS N0 d0 ev0 [[]] t=z→ ∀u,SE W u ev0→Gives Tryz.prog 8 #[.agg v.cells.toArray,dv,u,.slice (some ⟨g4,0,none⟩) 1 1,.int .i64 t] W fun x w''=>Below W.heap.size W w''∧SPs w'' x z:=fun hb _ _ hz u hu=>hz ▸ possible_c (ht7.below hb) (net_step hN7 hb) (sd_step hd7 hb) hu (sd_step hS7 hb) evs_needs
 have hcert: ∀ {W:World},Below w7.heap.size w7 W→ ∀ {t:Int} {z:List Spt},possS N0 d0 ev0 [[]] t=z→ ∀u,SE W u ev0→Gives Tryz.prog 13 #[.agg v.cells.toArray,dv,u,.slice (some ⟨g4,0,none⟩) 1 1,.int .i64 t] W fun x w''=>Below W.heap.size W w''∧x= .tuple #[.agg (spV (certS z).1).toArray,.bool (certS z).2]:=fun hb _ _ hz u hu=>hz ▸ certain_c (ht7.below hb) (net_step hN7 hb) (sd_step hd7 hb) hu (sd_step hS7 hb) evs_needs
 refine DW.ldS rfl (fun _ _ hv=>hB1.fld hv) ?_
 refine rnD ?_
 refine DW.cl (.pr (fun u W=>SE W u ev0)) ?_ rfl (fun _ w' hb'=>events_c) ?_
 ·exact fun _ _ _ hb h=>se_step h hb
 refine rnD ?_
 refine DW.callP (.pr (fun u W=>SPs W u [(0,-1)])) (fun _ _ _ hb h=>sps_step h hb) rfl rfl en8 rfl ct (PArgs.cons rfl ct (PArgs.cons rfl ct (PArgs.cons rfl ct (PArgs.cons rfl ct (PArgs.cons rfl ct PArgs.nil))))) (fun _ w' hb' vs hs=> ?_) ?_
 ·obtain ⟨_,_,u,_,_,rfl,rfl,rfl,hu,rfl,rfl⟩:=Sats.five hs
  exact hpos hb' p100 u hu
 refine DW.ldS rfl (fun _ _ hv=>hBa.fld hv) ?_
 refine DW.buildSlice 49 _ rfl rfl rfl eo46 (DArgs.cons rfl ct DArgs.nil) rfl rfl rfl rfl rfl ?_
 refine DW.callP (.ex (.bool true)) (trivial) rfl rfl en11 rfl ct (PArgs.cons rfl ct (PArgs.cons rfl ct PArgs.nil)) (fun _ w' hb' vs hs=> ?_) ?_
 ·obtain ⟨u,x,rfl,hu,⟨g,rfl,hB⟩⟩:=Sats.two hs
  have hu:SPs w' u [(0,-1)]:=hu
  exact (rsameS_c hu (litS1 (0,-1) (by decide) hB)).mono fun x w'' ⟨h1,h2⟩=>⟨h1,h2.trans (by simp)⟩
 refine rnD ?_
 refine DW.ldS rfl (fun _ _ hv=>hB1.fld hv) ?_
 refine rnD ?_
 refine DW.cl (.pr (fun u W=>SE W u ev0)) ?_ rfl (fun _ w' hb'=>events_c) ?_
 ·exact fun _ _ _ hb h=>se_step h hb
 refine rnD ?_
 refine DW.callP (.pr (fun u W=>SPs W u [(0,-1),(-1,0)])) (fun _ _ _ hb h=>sps_step h hb) rfl rfl en8 rfl ct (PArgs.cons rfl id (PArgs.cons rfl id (PArgs.cons rfl id (PArgs.cons rfl id (PArgs.cons rfl ct PArgs.nil))))) (fun _ w' hb' vs hs=> ?_) ?_
 ·obtain ⟨_,_,u,_,_,rfl,rfl,rfl,hu,rfl,rfl⟩:=Sats.five hs
  exact hpos hb' p120 u hu
 refine DW.ldS rfl (fun _ _ hv=>hBa.fld hv) ?_
 refine DW.ldS rfl (fun _ _ hv=>hBx.fld hv) ?_
 refine DW.buildSlice 49 _ rfl rfl rfl eo46 (DArgs.cons rfl id (DArgs.cons rfl id DArgs.nil)) rfl rfl rfl rfl rfl ?_
 refine DW.callP (.ex (.bool true)) (trivial) rfl rfl en11 rfl ct (PArgs.cons rfl id (PArgs.cons rfl id PArgs.nil)) (fun _ w' hb' vs hs=> ?_) ?_
 ·obtain ⟨u,x,rfl,hu,⟨g,rfl,hB⟩⟩:=Sats.two hs
  have hu:SPs w' u [(0,-1),(-1,0)]:=hu
  exact (rsameS_c hu (litS2 (0,-1) (-1,0) (by decide) (by decide) hB)).mono fun x w'' ⟨h1,h2⟩=>⟨h1,h2.trans (by simp)⟩
 refine rnD ?_
 refine DW.ldS rfl (fun _ _ hv=>hB1.fld hv) ?_
 refine rnD ?_
 refine DW.cl (.pr (fun u W=>SE W u ev0)) ?_ rfl (fun _ w' hb'=>events_c) ?_
 ·exact fun _ _ _ hb h=>se_step h hb
 refine rnD ?_
 refine DW.callP (.pr (fun u W=>SPs W u [(-1,0)])) (fun _ _ _ hb h=>sps_step h hb) rfl rfl en8 rfl ct (PArgs.cons rfl id (PArgs.cons rfl id (PArgs.cons rfl id (PArgs.cons rfl id (PArgs.cons rfl ct PArgs.nil))))) (fun _ w' hb' vs hs=> ?_) ?_
 ·obtain ⟨_,_,u,_,_,rfl,rfl,rfl,hu,rfl,rfl⟩:=Sats.five hs
  exact hpos hb' p150 u hu
 refine DW.ldS rfl (fun _ _ hv=>hBx.fld hv) ?_
 refine DW.buildSlice 49 _ rfl rfl rfl eo46 (DArgs.cons rfl id DArgs.nil) rfl rfl rfl rfl rfl ?_
 refine DW.callP (.ex (.bool true)) (trivial) rfl rfl en11 rfl ct (PArgs.cons rfl id (PArgs.cons rfl id PArgs.nil)) (fun _ w' hb' vs hs=> ?_) ?_
 ·obtain ⟨u,x,rfl,hu,⟨g,rfl,hB⟩⟩:=Sats.two hs
  have hu:SPs w' u [(-1,0)]:=hu
  exact (rsameS_c hu (litS1 (-1,0) (by decide) hB)).mono fun x w'' ⟨h1,h2⟩=>⟨h1,h2.trans (by simp)⟩
 refine rnD ?_
 refine DW.ldS rfl (fun _ _ hv=>hB1.fld hv) ?_
 refine rnD ?_
 refine DW.cl (.pr (fun u W=>SE W u ev0)) ?_ rfl (fun _ w' hb'=>events_c) ?_
 ·exact fun _ _ _ hb h=>se_step h hb
 refine rnD ?_
 refine DW.callP (.pr (fun u W=>SPs W u [(1,-1),(-1,0)])) (fun _ _ _ hb h=>sps_step h hb) rfl rfl en8 rfl ct (PArgs.cons rfl id (PArgs.cons rfl id (PArgs.cons rfl id (PArgs.cons rfl id (PArgs.cons rfl ct PArgs.nil))))) (fun _ w' hb' vs hs=> ?_) ?_
 ·obtain ⟨_,_,u,_,_,rfl,rfl,rfl,hu,rfl,rfl⟩:=Sats.five hs
  exact hpos hb' p170 u hu
 refine DW.ldS rfl (fun _ _ hv=>hBb.fld hv) ?_
 refine DW.ldS rfl (fun _ _ hv=>hBx.fld hv) ?_
 refine DW.buildSlice 49 _ rfl rfl rfl eo46 (DArgs.cons rfl id (DArgs.cons rfl id DArgs.nil)) rfl rfl rfl rfl rfl ?_
 refine DW.callP (.ex (.bool true)) (trivial) rfl rfl en11 rfl ct (PArgs.cons rfl id (PArgs.cons rfl id PArgs.nil)) (fun _ w' hb' vs hs=> ?_) ?_
 ·obtain ⟨u,x,rfl,hu,⟨g,rfl,hB⟩⟩:=Sats.two hs
  have hu:SPs w' u [(1,-1),(-1,0)]:=hu
  exact (rsameS_c hu (litS2 (1,-1) (-1,0) (by decide) (by decide) hB)).mono fun x w'' ⟨h1,h2⟩=>⟨h1,h2.trans (by simp)⟩
 refine rnD ?_
 refine DW.fi [0,1,2,3,4,5,6,7] rfl fun w8 c8=> ?_
 refine rnT ?_
 refine CW.drawPlus [7] 9 mixed (by kernel_rfl) (fun _ _ d _ _ h=>by cases d<;>exact h) fun W8 hW8=> ?_
 refine RW.draw .weak 9 (by kernel_rfl) (by kernel_rfl) rfl rfl hW8 ?_
 have d8:=c8
 have hN8:=hB1.next d8
 refine DW.ldS rfl (fun _ _ hv=>hN8.fld hv) ?_
 refine rnD ?_
 refine DW.cl (.pr (fun u W=>SE W u ev0)) ?_ rfl (fun _ w' hb'=>events_c) ?_
 ·exact fun _ _ _ hb h=>se_step h hb
 refine rnD ?_
 refine DW.callP (.ex (.tuple #[.agg (spV (0,-1)).toArray,.bool true])) (trivial) rfl rfl en13 rfl ct (PArgs.cons rfl ct (PArgs.cons rfl ct (PArgs.cons rfl ct (PArgs.cons rfl ct (PArgs.cons rfl ct PArgs.nil))))) (fun _ w' hb' vs hs=> ?_) ?_
 ·obtain ⟨_,_,u,_,_,rfl,rfl,rfl,hu,rfl,rfl⟩:=Sats.five hs
  exact hcert (d8.step hb') p100 u hu
 refine rnD ?_
 refine DW.allocP rfl zc49 ?_
 refine DW.nil (DW.finX [0,1,2,3,4,5,6,7,70,71] [(0,_,_),(1,_,_),(2,_,_),(3,_,_),(4,_,_),(5,_,_),(6,_,_),(7,_,_),(70,_,_),(71,_,_)] rfl [8] rfl fun vs w9 c9 hs9=>KW.rk' ?_)
 obtain ⟨v8,rfl,h8⟩:=Sats.one hs9
 obtain ⟨g8,rfl,hg8,hB8⟩:=h8
 refine RW.one (by kernel_rfl) (by kernel_rfl) rfl ?_
 refine TW.storeBlkF rfl rfl rfl hB8 sz49 rfl rfl rfl ?_
 rintro w10 hB8 hbut10 hsz10
 have d9:=d8.step c9
 have d10:Below w7.heap.size w7 w10:=d9.grown hbut10 d9.size (fun q hq=>by cases hq; have:=d8.size; omega)
 refine TW.nil (KW.pick [0,1,2,3,4,5,6,7,8,71] [(0,_,_),(1,_,_),(2,_,_),(3,_,_),(4,_,_),(5,_,_),(6,_,_),(7,_,_),(8,_,_),(71,_,_)] rfl (KW.rk ?_))
 refine RW.one (by kernel_rfl) (by kernel_rfl) rfl ?_
 refine TW.v V.assign rfl ⟨ct,trivial⟩ (fun _=>trivial) ?_
 refine TW.nil (KW.pick [0,1,2,3,4,5,6,7,8,9] [(0,_,_),(1,_,_),(2,_,_),(3,_,_),(4,_,_),(5,_,_),(6,_,_),(7,_,_),(8,_,_),(9,_,_)] rfl (KW.rk ?_))
 refine RW.end rfl (KW.pick [0,1,2,3,4,5,6,7,8,9] [(0,_,_),(1,_,_),(2,_,_),(3,_,_),(4,_,_),(5,_,_),(6,_,_),(7,_,_),(8,_,_),(9,_,_)] rfl (KW.then_ ?_))
 refine CW.seq ?_
 refine CW.drawPlus [7] 9 mixed (by kernel_rfl) (fun _ _ d _ _ h=>by cases d<;>exact h) fun W11 hW11=> ?_
 refine RW.draw .weak 9 (by kernel_rfl) (by kernel_rfl) rfl rfl hW11 ?_
 have d11:=d10
 have hN11:=hB2.next (b27.step d11)
 refine DW.ldS rfl (fun _ _ hv=>hN11.fld hv) ?_
 refine rnD ?_
 refine DW.cl (.pr (fun u W=>SE W u ev0)) ?_ rfl (fun _ w' hb'=>events_c) ?_
 ·exact fun _ _ _ hb h=>se_step h hb
 refine rnD ?_
 refine DW.callP (.ex (.tuple #[.agg (spV (0,0)).toArray,.bool false])) (trivial) rfl rfl en13 rfl ct (PArgs.cons rfl ct (PArgs.cons rfl ct (PArgs.cons rfl ct (PArgs.cons rfl ct (PArgs.cons rfl ct PArgs.nil))))) (fun _ w' hb' vs hs=> ?_) ?_
 ·obtain ⟨_,_,u,_,_,rfl,rfl,rfl,hu,rfl,rfl⟩:=Sats.five hs
  exact hcert (d11.step hb') p120 u hu
 refine rnD ?_
 refine DW.allocP rfl zc49 ?_
 refine DW.nil (DW.finX [0,1,2,3,4,5,6,7,8,9,78,79] [(0,_,_),(1,_,_),(2,_,_),(3,_,_),(4,_,_),(5,_,_),(6,_,_),(7,_,_),(8,_,_),(9,_,_),(78,_,_),(79,_,_)] rfl [10] rfl fun vs w12 c12 hs12=>KW.rk' ?_)
 obtain ⟨v10,rfl,h10⟩:=Sats.one hs12
 obtain ⟨g10,rfl,hg10,hB10⟩:=h10
 refine RW.one (by kernel_rfl) (by kernel_rfl) rfl ?_
 refine TW.storeBlkF rfl rfl rfl hB10 sz49 rfl rfl rfl ?_
 rintro w13 hB10 hbut13 hsz13
 have d12:=d11.step c12
 have d13:Below w7.heap.size w7 w13:=d12.grown hbut13 d12.size (fun q hq=>by cases hq; have:=d11.size; omega)
 have hB8':Blk w13 g8 49 (spV (0,-1)):=Blk.keptO (hB8.next c12) hbut13 (fun e=>by cases e; have:=hB8.lt; have:=hW11.size; omega)
 have hBa':=hBa.next d13
 refine TW.nil (KW.pick [0,1,2,3,4,5,6,7,8,9,79] [(0,_,_),(1,_,_),(2,_,_),(3,_,_),(4,_,_),(5,_,_),(6,_,_),(7,_,_),(8,_,_),(9,_,_),(79,_,_)] rfl (KW.rk ?_))
 refine RW.one (by kernel_rfl) (by kernel_rfl) rfl ?_
 refine TW.v V.assign rfl ⟨ct,trivial⟩ (fun _=>trivial) ?_
 refine TW.nil (KW.pick [0,1,2,3,4,5,6,7,8,9,11] [(0,_,_),(1,_,_),(2,_,_),(3,_,_),(4,_,_),(5,_,_),(6,_,_),(7,_,_),(8,_,_),(9,_,_),(11,_,_)] rfl (KW.rk ?_))
 refine RW.end rfl (KW.pick [0,1,2,3,4,5,6,7,8,9,11] [(0,_,_),(1,_,_),(2,_,_),(3,_,_),(4,_,_),(5,_,_),(6,_,_),(7,_,_),(8,_,_),(9,_,_),(11,_,_)] rfl (KW.then_ ?_))
 refine rnT ?_
 refine TW.known rfl rfl ?_
 refine TW.ldS rfl (fun _ _ hv=>hB8'.fld hv) ?_
 refine TW.known rfl rfl ?_
 refine TW.ldS rfl (fun _ _ hv=>hBa'.fld hv) ?_
 refine TW.known rfl rfl ?_
 refine TW.eqlT rfl rfl rfl ct rfl ct (by kernel_rfl) ?_
 refine TW.pickAnd rfl rfl rfl ct rfl pT ?_
 refine TW.v V.move rfl ⟨ct,trivial⟩ (fun _=>trivial) ?_
 refine TW.known rfl rfl ?_
 refine TW.v V.move rfl ⟨ct,trivial⟩ (fun _=>trivial) ?_
 refine TW.known rfl rfl ?_
 refine TW.v V.not rfl ⟨ct,trivial⟩ (fun _=>trivial) ?_
 refine TW.pickAnd rfl rfl rfl ct rfl pT ?_
 refine TW.v V.move rfl ⟨ct,trivial⟩ (fun _=>trivial) ?_
 refine TW.known rfl rfl ?_
 refine rnT ?_
 refine TW.known rfl rfl ?_
 refine TW.cl rfl (events_c) ?_
 rintro e1v w14 ⟨c14,he14⟩
 refine TW.known rfl rfl ?_
 refine rnT ?_
 refine TW.known rfl rfl ?_
 have d14:=d13.step c14
 refine TW.cl rfl (reach_c (sd_step hd7 d14) he14 (sd_step hS7 d14) evs_needs (knd1 0 159 (by decide) (by decide))) ?_
 rintro y w15 ⟨c15,rfl⟩
 rw [r159]
 have d15:=d14.step c15
 refine TW.pickAnd rfl rfl rfl ct rfl pT ?_
 refine TW.v V.move rfl ⟨ct,trivial⟩ (fun _=>trivial) ?_
 refine TW.known rfl rfl ?_
 refine rnT ?_
 refine TW.known rfl rfl ?_
 refine TW.cl rfl (events_c) ?_
 rintro e2v w16 ⟨c16,he16⟩
 refine TW.known rfl rfl ?_
 refine rnT ?_
 refine TW.known rfl rfl ?_
 have d16:=d15.step c16
 refine TW.cl rfl (reach_c (sd_step hd7 d16) he16 (sd_step hS7 d16) evs_needs (knd1 41 159 (by decide) (by decide))) ?_
 rintro y w17 ⟨c17,rfl⟩
 rw [r41]
 have d17:=d16.step c17
 refine TW.known rfl rfl ?_
 refine rnT ?_
 refine TW.known rfl rfl ?_
 refine TW.cl rfl (events_c) ?_
 rintro e3v w18 ⟨c18,he18⟩
 refine TW.known rfl rfl ?_
 refine rnT ?_
 refine TW.known rfl rfl ?_
 have d18:=d17.step c18
 refine TW.cl rfl (seen_c he18 (sd_step hS7 d18) (by decide) evs_needs) ?_
 rintro y w19 ⟨c19,rfl⟩
 rw [s200]
 have d19:=d18.step c19
 refine rnT ?_
 refine TW.known rfl rfl ?_
 refine TW.cl rfl (events_c) ?_
 rintro e4v w20 ⟨c20,he20⟩
 refine TW.known rfl rfl ?_
 refine rnT ?_
 refine TW.known rfl rfl ?_
 have d20:=d19.step c20
 refine TW.cl rfl (seen_c he20 (sd_step hS7 d20) (by decide) evs_needs) ?_
 rintro y w21 ⟨c21,rfl⟩
 rw [s199]
 have d21:=d20.step c21
 refine TW.known rfl rfl ?_
 refine rnT ?_
 refine TW.known rfl rfl ?_
 refine TW.cl rfl (events_c) ?_
 rintro e5v w22 ⟨c22,he22⟩
 refine TW.known rfl rfl ?_
 have d22:=d21.step c22
 refine TW.cl rfl (seen_c (ws:= []) he22 (SL.nil _ _ _) (by decide) evs_needs) ?_
 rintro y w23 ⟨c23,rfl⟩
 rw [snil]
 have d23:=d22.step c23
 refine TW.known rfl rfl ?_
 refine rnT ?_
 refine TW.cl rfl (events_c) ?_
 rintro e6v w24 ⟨c24,he24⟩
 have d24:=d23.step c24
 refine TW.cl rfl (worlds_c (most:=1) (sd_step hd7 d24) he24 (by decide)) ?_
 rintro y w25 ⟨c25,wv,rfl,hw25⟩
 rw [werr1]
 rw [worlds1] at hw25
 have d25:=d24.step c25
 obtain ⟨WA,wc,rfl,_⟩:=hw25.form
 refine rnT ?_
 refine TW.cl rfl (events_c) ?_
 rintro e7v w26 ⟨c26,he26⟩
 have d26:=d25.step c26
 refine TW.cl rfl (fit_c (sd_step hd7 d26) he26) ?_
 rintro y w27 ⟨c27,tv,rfl⟩
 rw [dec_pos fitted0]
 have d27:=d26.step c27
 have hw27:=sd_step hw25 (c26.step c27)
 have hB27:=hB2.next (b27.step d27)
 refine rnT ?_
 refine CW.pk [0,1,2,3,4,5,6,7,8,9,11,12,13,14,16] rfl ?_
 refine CW.draw mixed (by kernel_rfl) ?_
 refine rnD ?_
 refine DW.ldS rfl (fun _ _ hv=>hB27.fld hv) ?_
 refine rnD ?_
 refine DW.cl (.pr (fun u W=>SE W u ev0)) ?_ rfl (fun _ w' hb'=>events_c) ?_
 ·exact fun _ _ _ hb h=>se_step h hb
 refine rnD ?_
 refine DW.callP (.pr (fun u W=> ∃A c,u= .slice A 4 c)) (Ent.mono_pure _) rfl rfl en8 rfl ct (PArgs.cons rfl id (PArgs.cons rfl id (PArgs.cons rfl id (PArgs.cons rfl id (PArgs.cons rfl ct PArgs.nil))))) (fun _ w' hb' vs hs=> ?_) ?_
 ·obtain ⟨_,_,u,_,_,rfl,rfl,rfl,hu,rfl,rfl⟩:=Sats.five hs
  have d:=d27.step hb'
  exact (possible_c (ht7.below d) (net_step hN7 d) (sd_step hd7 d) hu (sd_step hw27 hb') evs_needs).mono fun x w'' ⟨h1,h2⟩=>⟨h1,by
   obtain ⟨A,c,h3,_⟩:=h2.form
   rw [p4] at h3
   exact ⟨A,c,h3⟩⟩
 refine DW.lenP 4 rfl rfl Tryz.underlying46 rfl id (fun _ _ h=>h) ?_
 refine rnD ?_
 refine DW.fi [0,1,2,3,4,5,6,7,8,9,11,12,13,14,16] rfl fun w28 c28=> ?_
 refine rnT ?_
 refine rt1 rfl ⟨b7.step (d27.step c28),rfl⟩
structure RightP (N:Net) (d:Dist) (l:List Ev) (ws:List (List Int)):Prop where
 light:LightP N d l ws
 sound:SoundOK keys11 N
 fit:FitW d l ws.length
 same:d.length=N.offs.length
theorem LightP.needs {N:Net} {d:Dist} {l:List Ev} {ws:List (List Int)} (h:LightP N d l ws): ∀e∈l,e.needs.length≤1000000:=fun e he=>by have:=h.few.nd e he; omega
theorem LightP.len (h:LightP N d l ws):l.length≤8:=by have:=h.few.fd.l1; omega
theorem RightP.ok (h:RightP N d l ws) {t:Int} (h0:0≤t) (h1:t≤1000000):PossOK N d l ws.length t:=⟨h.sound,h.fit,h.same,h0,h1⟩
theorem FitW.less {n m:Nat} (h:FitW d l n) (hm:m≤400):FitW d l m:=⟨h.few,hm,h.wd,h.each⟩
theorem right_c {v:NV} {dv lv wv:Value} (hN:NetAt w v N) (hd:SD w dv d) (hl:SE w lv l) (hS:SD w wv ws) :
  Gives Tryz.prog 5 #[.agg v.cells.toArray,dv,lv,wv] w fun x w'=>Below w.heap.size w w'∧x= .bool (dec (RightP N d l ws)):=by
 have hform:=NetIn.form hN
 obtain ⟨A,cap,rfl,hcap⟩:=hd.form
 obtain ⟨X,xcap,rfl,_⟩:=hS.form
 have hv: ∃A4 c4,v.f= .slice A4 N.offs.length c4:=hform.f
 obtain ⟨vc,vn,vo,vf,vl,vk⟩:=v
 obtain ⟨A4,c4,e4⟩:=hv
 dsimp only at e4
 subst e4
 refine gv (f:=5) ?_
 refine rnT ?_
 refine TW.box rfl rfl rfl rfl ?_
 rintro g4 w1 f1
 refine rnT ?_
 have hB1:=f1.blk
 refine TW.ldS rfl (fun _ _ hv=>hB1.fld hv) ?_
 refine rnT ?_
 refine TW.cl rfl (rlight_c (net_step hN f1.below) (sd_step hd f1.below) (se_step hl f1.below) (sd_step hS f1.below)) ?_
 rintro y w2 ⟨c2,rfl⟩
 have b2:=f1.below.step c2
 have hB2:=hB1.next c2
 refine rnT ?_
 refine TW.ldS rfl (fun _ _ hv=>hB2.fld hv) ?_
 refine TW.callF (cap:= []) rfl rfl en18 rfl ct (Args.cons rfl id Args.nil) (fun hG=>rsound_c (net_step hN b2) (FewR.few (LightP.net (dec_iff.1 hG)))) ?_
 rintro w3 c3
 refine rnT ?_
 have b3:=b2.step c3
 refine TW.callF (cap:= []) rfl rfl en19 rfl ct (Args.cons rfl id (Args.cons rfl id (Args.cons rfl id Args.nil))) (fun _=>rfitting_c (sd_step hd b3) (se_step hl b3)) ?_
 rintro w4 c4'
 refine rnT ?_
 have b4:=b3.step c4'
 have hB4:=(hB2.next c3).next c4'
 refine TW.ld rfl (hB4.fld rfl) ?_
 refine rnT ?_
 refine rt1 rfl ⟨b4,?_⟩
 congr 1
 by_cases hR:RightP N d l ws
 ·rw [dec_pos hR,dec_pos hR.light,dec_pos hR.sound,dec_pos hR.fit]
  have:=hR.same
  simp
  omega
 ·rw [dec_neg hR]
  by_cases h1:LightP N d l ws
  ·by_cases h2:SoundOK keys11 N
   ·by_cases h3:FitW d l ws.length
    ·rw [dec_pos h1,dec_pos h2,dec_pos h3]
     have: ¬d.length=N.offs.length:=fun h=>hR ⟨h1,h2,h3,h⟩
     simp
     omega
    ·rw [dec_neg h3]; simp
   ·rw [dec_neg h2]; simp
  ·rw [dec_neg h1]; simp
theorem has_c {v:Value} {l:List Spt} {s:Spt} {F:Nat→Prop} (h:SL sptT F w v l):Gives Tryz.prog 7 #[v,.agg (spV s).toArray] w fun x w'=>Below w.heap.size w w'∧x= .bool (decide (s∈l)):=by
 obtain ⟨A,cap,rfl,_⟩:=h.form
 have hmax:=h.len.2.2
 refine gv (f:=7) ?_
 refine rnT ?_
 refine TW.box rfl rfl rfl rfl ?_
 rintro g3 w1 f1
 refine rnT ?_
 have hB1:=f1.blk
 refine CW.lp [0,3] (fun i:Nat=> [(5,none,.int .i64 (i:Int))])
  (fun i W=>i≤l.length∧Below w1.heap.size w1 W∧s ∉ l.take i) (fun i=>l.length-i) 0 ⟨Nat.zero_le _,Below.refl _ _,by simp⟩ ?_
 rintro i W ⟨hi,hB,hno⟩
 refine rnT ?_
 refine CW.condP rfl (fun hlt=> ?_) (fun hge=> ?_)
 ·obtain ⟨x,hx,hxm⟩:=getx (l:=l) (k:=i) (by omega)
  have hW:=h.below (f1.below.step hB)
  obtain ⟨ad,rfl⟩:=hW.addr (by omega)
  have hcx:=(SPs.get hW hx).1
  have hBW:=hB1.next hB
  refine rnT ?_
  refine CW.draw mixed (by kernel_rfl) ?_
  refine rnD ?_
  refine DW.ldS rfl (fun j u hj=>hcx j u hj) ?_
  refine DW.ldS rfl (fun j u hj=>hBW.fld hj) ?_
  refine DW.eqlT rfl rfl rfl ct rfl ct (by kernel_rfl) ?_
  refine DW.fi [0,3,5,17] rfl fun w2 b2=> ?_
  refine KW.then_ ?_
  refine CW.cond rfl (fun hyes=> ?_) (fun hnot=> ?_)
  ·refine rnT ?_
   refine rt1 rfl ⟨(f1.below.step hB).step b2,?_⟩
   rw [spV_eq] at hyes
   have hxs:x=s:=by simpa using hyes
   rw [decide_eq_true (by rw [←hxs]; exact hxm)]
  ·refine rnT ?_
   refine KW.rd (i+1) ⟨by omega,hB.step b2,fun hm=> ?_⟩
   rw [spV_eq] at hnot
   have hxs: ¬x=s:=by simpa using hnot
   rw [List.take_add_one,hx] at hm
   rcases List.mem_append.1 hm with hm|hm
   ·exact hno hm
   ·simp at hm
    exact hxs hm.symm
 ·refine rnT ?_
  refine rt1 rfl ⟨f1.below.step hB,?_⟩
  rw [List.take_of_length_le (by omega)] at hno
  rw [decide_eq_false hno]
end Go.Proofs.YtffjgpoadfkjlaaGreatDoor
namespace Go.Proofs.YtffjgpoadfkjlaaGreatDoor
open Go.PF Go.RowKit Go.Ord
theorem evs_more {w0 w:World} {v:Value} {l qs:List Ev} {ps1 ps2:List (List Value×Ev)} {n m:Nat} (hb:Below w0.heap.size w0 w) (r1: ∀p∈ps1,evT.rep (fun k=>k<w0.heap.size) w0 p.1 p.2) (p1:ps1.map (·.2)=l) (r2: ∀p∈ps2,evT.rep (fun k=>k<w0.heap.size) w0 p.1 p.2) (p2:ps2.map (·.2)=qs) (hn:n=l.length) (hm:m=qs.length)
  (h:OwnS w 39 4 v (0+n+m) ([]++ps1.flatMap (·.1)++ps2.flatMap (·.1))∧ ∀g,v.ownBlock=some g→w0.heap.size≤g) (hs:n+m≤9223372036854775807):SE w v (l++qs):=by
 have e1:ps1.length=n:=by rw [hn,←p1]; simp
 have e2:ps2.length=m:=by rw [hm,←p2]; simp
 have h1:=OwnS.toSLn (T:=evT) (by decide) (n:=0+n+m) (ps:=ps1++ps2) hb (fun p hp=>(List.mem_append.1 hp).elim (r1 p) (r2 p)) (by rw [List.flatMap_append]; exact h.1) (by simp; omega) (by simp; omega)
 rw [List.map_append,p1,p2] at h1
 exact h1.now evT_now
structure EvOf (w:World) (cs:List Value) (e:Ev) (nv:Value):Prop where
 eq:cs= [.int .i64 e.office,.int .i64 e.low,.int .i64 e.high,nv]
 i1:I64 e.office
 i2:I64 e.low
 i3:I64 e.high
 nd:SL intT (fun k=>k<w.heap.size) w nv e.needs
end Go.Proofs.YtffjgpoadfkjlaaGreatDoor
namespace Go.Proofs.YtffjgpoadfkjlaaGreatDoor
open Go.PF Go.RowKit Go.Ord
attribute [local irreducible] TW CW KW DW
theorem lines_at {N:Net} {d:Dist} {l:List Ev} {L:Li} {k:Nat} {low high t0 t:Int} (hR:RightP N d l []) (hL:N.lines[k]?=some L) (hP:PossJ d l {(⟨L.frm,low,high,[]⟩:Ev) with low:=t0,high:=t0} ⟨L.to,0,1000000,[]⟩ L.trav) (h1:t0<t) (h2:t<t0+L.trav):(-1,(k:Int))∈possS N d l [[]] t:=by
 obtain ⟨hlo,l',t',rfl,hH,ha,hb,hx⟩:=hP
 have e1:t0≤t':=ha.2.2.1
 have e2:t'≤t0:=ha.2.2.2
 obtain rfl:t'=t0:=by omega
 have hg:=hR.sound.cons.lines.good L (List.mem_of_getElem? hL)
 have q1:=hg.f1
 have q2:=hg.f2
 have q3:=hg.t1
 have q4:=hg.t2
 have q5:=ha.1
 have q6:=hb.2.1
 have hlen:=hR.light.len
 have hsame:=hR.same
 have hpok:PossOK N d (l'.map (·.1)) ([[]]:List (List Int)).length t:=⟨hR.sound,hR.fit.less (by decide),hR.same,by omega,by omega⟩
 rw [poss_eq hpok]
 refine mem_spots.2 ⟨.on L t,List.mem_append_right _ (mem_linPl.2 ⟨k,L,hL,rfl⟩),?_⟩
 have hr:restS (l'.map (·.1)) []=l'.map (·.1):=by
  unfold restS
  rw [List.filter_eq_self]
  intro e _
  simp [gone]
 show (restsS (l'.map (·.1)) [[]]).any ((Knd.on L t).b d)=true
 unfold restsS
 rw [List.map_cons,List.any_cons,hr,Bool.or_eq_true]
 left
 refine dec_pos ⟨⟨hR.fit.wd,by rw [List.length_append]; show _+2≤16; omega,fun e he=> ?_⟩,hlo,l',t',rfl,hH,⟨ha.1,ha.2.1,?_,?_⟩,⟨hb.1,hb.2.1,?_,?_⟩,hx⟩
 ·rcases List.mem_append.1 he with he|he
  ·exact hR.fit.each e he
  ·simp only [List.mem_cons,List.not_mem_nil,or_false] at he
   rcases he with rfl|rfl
   ·exact ⟨q1,by show L.frm<_; omega⟩
   ·exact ⟨q3,by show L.to<_; omega⟩
 ·show t-L.trav+1≤t'; omega
 ·show t'≤t-1; omega
 ·show t+1≤t'+L.trav; omega
 ·show t'+L.trav≤t+L.trav-1; omega
theorem lines_law {w:World} {v:NV} {N:Net} {dv lv:Value} {d:Dist} {l:List Ev} (k0 lo hi a0:Int) (hk:0≤k0∧k0≤255) (hlo:I64 lo) (hhi:I64 hi) (ha:0≤a0∧a0≤65535) (hN:NetAt w v N) (hd:SD w dv d) (hl:SE w lv l) (ht:Tabs w) :
  Gives Tryz.prog 3 #[.agg v.cells.toArray,dv,lv,.int .u8 k0,.int .i64 lo,.int .i64 hi,.int .u16 a0] w fun u w'=>Below w.heap.size w w'∧u= .bool true:=by
 have hv5: ∃A5 c5,v.l= .slice A5 N.lines.length c5:=(NetIn.form hN).l
 obtain ⟨vc,vn,vo,vf,vl,vk⟩:=v
 obtain ⟨A5,c5,e5⟩:=hv5
 dsimp only at e5
 subst e5
 obtain ⟨A,cap,rfl,_⟩:=hl.form
 refine gv (f:=3) ?_
 refine rnT ?_
 refine TW.box rfl rfl rfl rfl ?_
 rintro g7 w1 f1
 refine rnT ?_
 have hB1:=f1.blk
 refine TW.cl rfl (head_c (ht.below f1.below)) ?_
 rintro y w2 ⟨c2,rfl⟩
 have b2:=f1.below.step c2
 have hB2:=hB1.next c2
 refine rnT ?_
 refine TW.ldS rfl (fun _ _ hv=>hB2.fld hv) ?_
 refine rnT ?_
 refine TW.cl rfl (right_c (ws:= []) (net_step hN b2) (sd_step hd b2) (se_step hl b2) (SL.nil _ _ _)) ?_
 rintro y w3 ⟨c3,rfl⟩
 have b3:=b2.step c3
 have hB3:=hB2.next c3
 refine rnT ?_
 refine TW.ld rfl (hB3.fld rfl) ?_
 refine rnT ?_
 refine CW.cond rfl (fun hbad=> ?_) (fun hgood=> ?_)
 ·refine rnT ?_
  refine rt1 rfl ⟨b3,rfl⟩
 have hR:RightP N d l []:=dec_iff.1 (by cases hq:dec (RightP N d l [])<;>simp_all)
 have hn0:0<N.lines.length:=by
  rw [dec_pos hR] at hgood
  simp at hgood
  exact List.length_pos_iff.2 hgood
 have hne:=hR.light.needs
 have hln:=hR.light.len
 have hl10:=hR.light.lines
 have w0:IntKind.i64.wrap k0=k0:=wrap_fits (by omega)
 refine rnT ?_
 refine TW.ld rfl (hB3.fld rfl) ?_
 refine TW.v V.lenSlice rfl ⟨ct,trivial⟩ (fun _=>trivial) ?_
 refine TW.v V.rem rfl ⟨ct,ct,trivial⟩ (fun _=>by (try dsimp only); omega) ?_
 refine rnT ?_
 rw [w0]
 obtain ⟨k,hke⟩: ∃k:Nat,k0%(N.lines.length:Int)=k:=by
  have h1:=Int.emod_nonneg k0 (b:=(N.lines.length:Int)) (by omega)
  exact ⟨(k0%(N.lines.length:Int)).toNat,by omega⟩
 have hkl:k<N.lines.length:=by
  have h1:=Int.emod_lt_of_pos k0 (b:=(N.lines.length:Int)) (by omega)
  omega
 rw [hke]
 obtain ⟨L,hL,hLm⟩:=getx (l:=N.lines) (k:=k) hkl
 have hls:=(net_step hN b3).l
 obtain ⟨ad,rfl⟩:=hls.addr (by omega)
 obtain ⟨ad',cs,h1,_,⟨rfl,_,i1,i2,_,i4,_⟩,hc⟩:=hls.at hL
 cases h1
 have hgl:=hR.sound.cons.lines.good L hLm
 have r1:=hgl.r1
 have r2:=hgl.r2
 refine TW.ld rfl (hB3.fld rfl) ?_
 refine rnT ?_
 refine TW.ldS rfl (hc) ?_
 refine TW.newVar rfl zc36 rfl sz36 rfl rfl ?_
 rintro g17 w4 f4
 refine rnT ?_
 refine CW.pk [0,1,2,3,4,5,6,7,14,15,16,17] rfl ?_
 refine CW.drawO mixed (by kernel_rfl) ?_
 have c45:=f4.below
 have hLB:Blk w4 g17 36 (liV L):=f4.blk
 have b5:=b3.step c45
 have hB5:=hB3.next c45
 obtain ⟨ps1,p1,r1',n1,a1⟩:=(se_step hl b5).flat (T:=evT) (by decide)
 refine OW.buildSlice0 39 rfl rfl eo31 ?_
 refine rnD ?_
 refine OW.append (m:=l.length) (A:=A) (ps1.flatMap (·.1)) rfl rfl go31 rfl (by kernel_rfl) rfl ct a1 n1 (one_flat evT_one r1') (by omega) (by omega) ?_
 refine rnD ?_
 refine DW.ld rfl (hLB.fld rfl) ?_
 refine rnD ?_
 refine DW.build [0,1,2] _ [.int .i64 L.frm,.int .i64 lo,.int .i64 hi,.slice none 0 0] rfl rfl rfl rfl (DArgs.cons rfl ct (DArgs.cons rfl ct (DArgs.cons rfl ct DArgs.nil))) (by kernel_rfl) ?_
 refine rnD ?_
 refine DW.ld rfl (hLB.fld rfl) ?_
 refine DW.build [0,1,2] _ [.int .i64 L.to,.int .i64 0,.int .i64 1000000,.slice none 0 0] rfl rfl rfl rfl (DArgs.cons rfl ct (DArgs.cons rfl ct (DArgs.cons rfl ct DArgs.nil))) (by kernel_rfl) ?_
 refine OW.buildSlice 39 _ rfl rfl rfl eo31 (DArgs.cons rfl ct (DArgs.cons rfl ct DArgs.nil)) rfl rfl rfl rfl rfl ?_
 refine OW.appendR [.int .i64 L.frm,.int .i64 lo,.int .i64 hi,.slice none 0 0,.int .i64 L.to,.int .i64 0,.int .i64 1000000,.slice none 0 0] rfl rfl go31 rfl (by kernel_rfl) rfl ct (fun u hu=>by
  simp only [List.mem_cons,List.not_mem_nil,or_false] at hu
  rcases hu with rfl|rfl|rfl|rfl|rfl|rfl|rfl|rfl<;>rfl) (by omega) (by omega) rfl ?_
 refine OW.assign rfl rfl rfl ct (rowE_strong _ _ _ _ _) (by kernel_rfl) ?_
 refine DW.nil (DW.finX [0,1,2,3,4,5,6,7,14,15,16,17] [(0,_,_),(1,_,_),(2,_,_),(3,_,_),(4,_,_),(5,_,_),(6,_,_),(7,_,_),(14,_,_),(15,_,_),(16,_,_),(17,_,_)] rfl [18] rfl fun vs w6 c6 hs6=>KW.then_ ?_)
 obtain ⟨v18,rfl,h18⟩:=Sats.one hs6
 refine rnT ?_
 have hm6:SE w6 v18 (l++ [⟨L.frm,lo,hi,[]⟩,⟨L.to,0,1000000,[]⟩]):=evs_more c6 r1' p1 (ps2:= [([.int .i64 L.frm,.int .i64 lo,.int .i64 hi,.slice none 0 0],⟨L.frm,lo,hi,[]⟩),([.int .i64 L.to,.int .i64 0,.int .i64 1000000,.slice none 0 0],⟨L.to,0,1000000,[]⟩)]) (fun p hp=>by
  simp only [List.mem_cons,List.not_mem_nil,or_false] at hp
  rcases hp with rfl|rfl
  ·exact ⟨_,rfl,i1,hlo,hhi,SL.nil _ _ _⟩
  ·exact ⟨_,rfl,i2,(i64_small (by decide) (by decide):I64 0),(i64_small (by decide) (by decide):I64 1000000),SL.nil _ _ _⟩) rfl rfl rfl h18 (by simp; omega)
 have b6:=b5.step c6
 have hB6:=hB5.next c6
 have hL6:=hLB.next c6
 obtain ⟨M,mcap,rfl,_⟩:=hm6.form
 refine TW.ld rfl (hL6.fld rfl) ?_
 refine TW.build [0,1,2] _ [.int .i64 (l.length:Int),.int .i64 ((l.length:Int)+1),.int .i64 L.trav] rfl rfl rfl (Args.cons rfl ct (Args.cons rfl ct (Args.cons rfl ct Args.nil))) (by kernel_rfl) ?_
 refine TW.buildSlice 43 _ rfl rfl rfl eo44 (Args.cons rfl ct Args.nil) rfl rfl rfl rfl rfl ?_
 rintro g8 w7 f7
 have b7:=b6.step f7.below
 refine TW.cl rfl (fitX_c (sd_step hd b7) (se_step hm6 f7.below) (⟨fun j u hj=>f7.blk.fld hj⟩:LegAt w7 ⟨g8,0,none⟩ l.length L.trav) rfl rfl ⟨by omega,by omega⟩) ?_
 rintro y w8 ⟨c8,fv,rfl,hfx⟩
 have b8:=b7.step c8
 have c68:=f7.below.step c8
 have hB8:=hB6.next c68
 have hL8:=hL6.next c68
 refine rnT ?_
 refine TW.ld rfl (hL8.fld rfl) ?_
 refine rnT ?_
 refine CW.pk [0,1,2,3,4,5,6,7,14,15,16,17,18,19,20,80] rfl ?_
 refine CW.cond rfl (fun hno=> ?_) (fun hyes=> ?_)
 ·refine rnT ?_
  refine rt1 rfl ⟨b8,rfl⟩
 have hF:FittedJ d (l++ [⟨L.frm,lo,hi,[]⟩,⟨L.to,0,1000000,[]⟩]) l ⟨L.frm,lo,hi,[]⟩ ⟨L.to,0,1000000,[]⟩ L.trav:=dec_iff.1 (by revert hyes; cases hq:dec (FittedJ d (l++ [⟨L.frm,lo,hi,[]⟩,⟨L.to,0,1000000,[]⟩]) l ⟨L.frm,lo,hi,[]⟩ ⟨L.to,0,1000000,[]⟩ L.trav)<;>simp)
 have h2:2≤L.trav:=by
  rw [dec_pos hF] at hyes
  simp at hyes
  omega
 obtain ⟨gt,t0,rfl,hct,t1,t2,hPJ⟩:=hfx hF (by omega)
 refine rnT ?_
 refine CW.cond rfl (fun hne'=> ?_) (fun heq=> ?_)
 ·exfalso
  simp at hne'
 have wa:IntKind.i64.wrap a0=a0:=wrap_fits (by omega)
 have hct':w8.cell? (Addr.add ⟨gt,0,none⟩ ((l.length:Int).toNat*1))=some (.int .i64 t0):=by
  rw [show (l.length:Int).toNat*1=l.length by omega]
  exact hct
 have m0:=Int.emod_nonneg a0 (b:=L.trav-1) (by omega)
 have m1:=Int.emod_lt_of_pos a0 (b:=L.trav-1) (by omega)
 have hll:(l++ [⟨L.frm,lo,hi,[]⟩,⟨L.to,0,1000000,[]⟩]:List Ev).length=l.length+2:=by rw [List.length_append]; rfl
 rw [hll]
 refine rnT ?_
 refine CW.draw mixed (by kernel_rfl) ?_
 refine rnD ?_
 refine DW.ld rfl (hct') ?_
 refine rnD ?_
 refine DW.ld rfl (hL8.fld rfl) ?_
 refine DW.v V.sub rfl ⟨ct,ct,trivial⟩ (fun _=>by (try dsimp only); omega) ?_
 refine DW.v V.rem rfl ⟨ct,ct,trivial⟩ (fun _=>by (try dsimp only); omega) ?_
 refine DW.v V.add rfl ⟨ct,ct,trivial⟩ (fun _=>by (try dsimp only); rw [wa]; omega) ?_
 refine rnD ?_
 refine DW.fi [0,1,2,3,4,5,6,7,14,15,16,17,18,19,20,21] rfl fun w9 c9=> ?_
 refine rnT ?_
 rw [wa]
 have b9:=b8.step c9
 have hB9:=hB8.next c9
 have hin:=lines_at hR hL hPJ (t:=t0+1+a0%(L.trav-1)) (by omega) (by omega)
 refine TW.known rfl (by first|rfl|(simp [Cnd]; done)) ?_
 refine TW.ldS rfl (fun _ _ hv=>hB9.fld hv) ?_
 refine TW.known rfl (by first|rfl|(simp [Cnd]; done)) ?_
 refine TW.v V.move rfl ⟨ct,trivial⟩ (fun _=>trivial) ?_
 refine TW.known rfl (by first|rfl|(simp [Cnd]; done)) ?_
 refine rnT ?_
 refine TW.known rfl (by first|rfl|(simp [Cnd]; done)) ?_
 refine TW.buildSlice 37 _ rfl rfl rfl eo30 (Args.cons rfl ct Args.nil) rfl rfl rfl rfl rfl ?_
 rintro g10 w10 f10
 refine TW.known rfl (by first|rfl|(simp [Cnd]; done)) ?_
 refine rnT ?_
 refine TW.known rfl (by first|rfl|(simp [Cnd]; done)) ?_
 have b10:=b9.step f10.below
 have hS10:SD w10 (.slice (some ⟨g10,0,none⟩) 1 1) [[]]:=litP (T:=sliceT intT) (by decide) [([.slice none 0 0],[])] f10.blk rfl (fun p hp=>by
  rw [List.mem_singleton] at hp
  subst hp
  exact ⟨_,rfl,SL.nil _ _ _⟩) (by decide)
 refine TW.cl rfl (possible_c (ht.below b10) (net_step hN b10) (sd_step hd b10) (se_step hl b10) hS10 hne) ?_
 rintro pv w11 ⟨c11,hp11⟩
 have b11:=b10.step c11
 refine TW.known rfl (by first|rfl|(simp [Cnd]; done)) ?_
 refine rnT ?_
 refine TW.known rfl (by first|rfl|(simp [Cnd]; done)) ?_
 refine TW.build [0,1] _ (spV (-1,(k:Int))) rfl rfl rfl (Args.cons rfl ct (Args.cons rfl ct Args.nil)) (by kernel_rfl) ?_
 refine TW.known rfl (by first|rfl|(simp [Cnd]; done)) ?_
 refine TW.cl rfl (has_c (s:=(-1,(k:Int))) hp11) ?_
 rintro y w12 ⟨c12,rfl⟩
 rw [decide_eq_true hin]
 refine rnT ?_
 refine rt1 rfl ⟨b11.step c12,rfl⟩
end Go.Proofs.YtffjgpoadfkjlaaGreatDoor
namespace Go.PF
open Go.RowKit Go.ChangeShapes Go.WideShapes Go.ChangeAt
section
variable {H:Type} {enc:TypeId×Value→H} {P:Program}
def Opens {α:Type} (P:Program) (t:TypeId) (T:Ty α):Prop :=
 ∀ {H:Type} (enc:TypeId×Value→H) (w:World) (base:Nat) (spare:Nat→Bool) (held:Bool) (fuel:Nat) (cs:List Value) (x:DataW H×List MemPlace),DataW.trod enc P w base spare held fuel t cs=some x→ ∃a,T.rep (fun _=>True) w cs a
theorem Opens.slice {α:Type} {t e:TypeId} {T:Ty α} (ht:P.underlying t=some (.slice e)) (hn:P.cellsOf e=T.n) (h:Opens P e T):Opens P t (sliceT T):=by
 intro H enc w base spare held fuel cs x hx
 rcases Go.Deep.open_slice ht hx with ⟨rfl,_⟩|⟨a,len,cap,m,n,D,Pl,rfl,_,hl,hm,hmm,_,hi⟩
 ·exact ⟨[],_,rfl,SL.nil _ _ _⟩
 ·have hlm:len≤m:=by rw [hmm]; split<;>omega
  have hex: ∀i,i<len→ ∃y cs',T.rep (fun _=>True) w cs' y∧ ∀j u,cs'[j]?=some u→w.cell? ((a.add (i*T.n)).add j)=some u:=by
   intro i hil
   obtain ⟨cs',hc,htr⟩:=hi i (by omega)
   obtain ⟨y,hy⟩:=h enc w base spare held n cs' _ htr
   rw [hn] at hc
   obtain ⟨_,hcl,hat⟩:=World.cells?_some hc
   refine ⟨y,cs',hy,fun j u hj=> ?_⟩
   have hjl:j<T.n:=by rw [←hcl]; exact (List.getElem?_eq_some_iff.1 hj).1
   rw [hat j hjl,hj]
  let L:List α:=(List.range len).attach.map fun i=>Classical.choose (hex i.1 (List.mem_range.1 i.2))
  have hL:L.length=len:=by simp [L]
  refine ⟨L,_,rfl,some a,cap,by rw [hL],by omega,by rw [hL]; have:maxLen=9223372036854775807:=rfl; omega,?_⟩
  intro i y hy
  have hil:i<len:=by rw [←hL]; exact (List.getElem?_eq_some_iff.1 hy).1
  have e:y=Classical.choose (hex i hil):=by
   simp [L,hil] at hy
   exact hy.symm
  obtain ⟨cs',h1,h2⟩:=Classical.choose_spec (hex i hil)
  rw [←e] at h1
  exact ⟨a,cs',rfl,trivial,h2,h1⟩
theorem Opens.arg {α:Type} {t e:TypeId} {T:Ty α} {W:World} {b0:Nat} {v:Value} {d:DataW H} {ps:List MemPlace} (h:Opens P t (sliceT T)) (ht:P.underlying t=some (.slice e)) (hval:Value.okWide P W .any b0 t v) (hd:DataW.Trod enc P W 0 (fun _=>true) true t v d ps) :
  ∃ l,SL T (fun _=>True) W v l:=by
 obtain ⟨fuel,hf⟩:=hd
 obtain ⟨l,v',hv',hl⟩:=h enc W _ _ _ _ _ _ hf
 obtain ⟨a,len,cap,rfl⟩:=okWide_slice ht hval
 simp [Value.cells] at hv'
 subst hv'
 exact ⟨l,hl⟩
theorem Opens.argS {α:Type} {t:TypeId} {fs:Array Field} {T:Ty α} {W:World} {b0:Nat} {v:Value} {d:DataW H} {ps:List MemPlace} (h:Opens P t T) (ht:P.underlying t=some (.struct fs)) (hval:Value.okWide P W .any b0 t v) (hd:DataW.Trod enc P W 0 (fun _=>true) true t v d ps) :
  ∃ a cs,v= .agg cs.toArray∧T.rep (fun _=>True) W cs a:=by
 obtain ⟨fuel,hf⟩:=hd
 obtain ⟨a,ha⟩:=h enc W _ _ _ _ _ _ hf
 obtain ⟨cs,rfl,_⟩:=okWide_struct ht hval
 exact ⟨a,cs.toList,by simp,by simpa [Value.cells] using ha⟩
theorem stays_all (hl:laidOutB P=true) {W W':World} {sp:Nat→Bool}: ∀(ts:List TypeId) (vs:List Value) (ds:List (DataW H)) (ps:List MemPlace),(ts.all fun t=>P.readableRec t&&Nat.blt t P.types.size)=true→DataW.TrodAll enc P W 0 (fun _=>true) true ts vs ds ps →
  (∀p∈ps,W.sameAt W' p)→(∀p∈ps,sp p.block=true)→DataW.TrodAll enc P W' 0 sp true ts vs ds ps
 | [],[],[],ps,_,h,_,_=>h
 | t::ts,v::vs,d::ds,ps,ht,h,h1,h2=>by
  obtain ⟨p,q,hd,hr,rfl⟩:=h
  simp only [List.all_cons,Bool.and_eq_true] at ht
  refine ⟨p,q,WideElems.Trod_stays hl ht.1.1 (blt_iff.1 ht.1.2) hd (fun x hx=>h1 x (List.mem_append.2 (.inl hx))) (fun x hx=>h2 x (List.mem_append.2 (.inl hx))),?_,rfl⟩
  exact stays_all hl ts vs ds q ht.2 hr (fun x hx=>h1 x (List.mem_append.2 (.inr hx))) (fun x hx=>h2 x (List.mem_append.2 (.inr hx)))
 | [],[],_::_,_,_,h,_,_=>h.elim
 | [],_::_,_,_,_,h,_,_=>h.elim
 | _::_,[],_,_,_,h,_,_=>h.elim
 | _::_,_::_,[],_,_,h,_,_=>h.elim
theorem law_post {f:Func} {s:ChangeSpec} {apart fresh handsOn:Bool} {W W':World} {args:Array Value} {ds gs:List (DataW H)} {before:List MemPlace} {tb:TypeId} (hl:laidOutB P=true) (hW:DataW.Whole enc P f.params.toList s.vars apart W args.toList ds gs before) (hvars:s.vars= [])
  (hpar:(f.params.toList.all fun t=>P.readableRec t&&Nat.blt t P.types.size)=true) (hrt:f.resultTypes= #[tb]) (htb:P.underlying tb=some .bool) (hsr:(s.fn H (ds++gs)).results= [.lit (.bool true)]) (hsa:(s.fn H (ds++gs)).args=ds) (hsv:(s.fn H (ds++gs)).vars= [])
  (hb:Below W.heap.size W W'):s.post enc P f apart fresh handsOn false W args (.bool true) W':=by
 have hlt: ∀p∈before,p.block<W.heap.size:=fun p hp=>hW.lt p hp
 obtain ⟨p,q,hA,hV,hpq,hz,hn⟩:=id hW
 rw [hvars] at hV
 have hq:q= []:=by
  cases gs with
  | nil=>exact hV
  | cons g gs=>exact hV.elim
 subst hq
 rw [List.append_nil] at hpq
 subst hpq
 refine ⟨ds,gs,before,[],before,[],hW,?_,?_,?_,World.keptBut_mono (fun x hx=>⟨hx,.inr (.inl hx)⟩) (hb.frame (· ∈before)),fun h=>by cases h⟩
 ·rw [hsr,hrt]
  exact trodAll_mk1 ⟨1,by simp [DataW.trod,Value.cells,htb]⟩
 ·rw [hsa]
  exact stays_all hl _ _ _ _ hpar hA (fun x hx=>hb.same (hlt x hx)) (fun x hx=>by simpa using hlt x hx)
 ·rw [hsv,hvars]; rfl
theorem law_calls {f:Func} {k:FuncId} {s:ChangeSpec} {apart fresh handsOn:Bool} {W:World} {args:Array Value} {ds gs:List (DataW H)} {before:List MemPlace} {tb:TypeId} (hl:laidOutB P=true) (hW:DataW.Whole enc P f.params.toList s.vars apart W args.toList ds gs before) (hvars:s.vars= [])
  (hpar:(f.params.toList.all fun t=>P.readableRec t&&Nat.blt t P.types.size)=true) (hrt:f.resultTypes= #[tb]) (htb:P.underlying tb=some .bool) (hsr:(s.fn H (ds++gs)).results= [.lit (.bool true)]) (hsa:(s.fn H (ds++gs)).args=ds) (hsv:(s.fn H (ds++gs)).vars= [])
  (h:Gives P k args W fun u W'=>Below W.heap.size W W'∧u= .bool true):Calls P k args W fun e W'=> ∃v,e= .returned v∧s.post enc P f apart fresh handsOn false W args v W' :=
 h.mono fun u W' ⟨hb,hu⟩=>by
  subst hu
  exact law_post hl hW hvars hpar hrt htb hsr hsa hsv hb
end
end Go.PF
namespace Go.Proofs.YtffjgpoadfkjlaaGreatDoor
open Go.PF Go.RowKit Go.ChangeShapes Go.WideShapes Go.ChangeAt Go.Ord
variable {n:Int}
theorem own_:ownKnob Tryz.prog.godebug=none:=by kernel_rfl
theorem laid_:laidOutB Tryz.prog=true:=by kernel_rfl
theorem i64_of_wf (h:(Lit.int .i64 n).wf=true):I64 n:=by
 simp only [Lit.wf,Bool.and_eq_true,decide_eq_true_eq] at h
 exact h
theorem u8_of_wf (h:(Lit.int .u8 n).wf=true):0≤n∧n≤255:=by
 simp only [Lit.wf,Bool.and_eq_true,decide_eq_true_eq] at h
 exact h
theorem u16_of_wf (h:(Lit.int .u16 n).wf=true):0≤n∧n≤65535:=by
 simp only [Lit.wf,Bool.and_eq_true,decide_eq_true_eq] at h
 exact h
theorem opens_int:Opens Tryz.prog 3 intT:=by
 intro H enc w base spare held fuel cs x hx
 obtain ⟨a1,h1,_,w1⟩:=DataW.trod_int Tryz.underlying3 hx
 exact ⟨a1,h1,i64_of_wf w1⟩
theorem opens_ints:Opens Tryz.prog 37 (sliceT intT):=Opens.slice Tryz.underlying37 (by kernel_rfl) opens_int
theorem opens_str:Opens Tryz.prog 9 strT:=by
 intro H enc w base spare held fuel cs x hx
 obtain ⟨a1,h1,_,w1⟩:=DataW.trod_string Tryz.underlying9 hx
 exact ⟨a1,h1,w1⟩
theorem opens_strs:Opens Tryz.prog 23 (sliceT strT):=Opens.slice Tryz.underlying23 (by kernel_rfl) opens_str
theorem opens_rows:Opens Tryz.prog 30 (sliceT (sliceT intT)):=by
 refine Opens.slice Tryz.underlying30 (by kernel_rfl) ?_
 exact opens_ints
theorem opens_bool:Opens Tryz.prog 4 boolT:=by
 intro H enc w base spare held fuel cs x hx
 obtain ⟨a1,h1,_⟩:=DataW.trod_bool Tryz.underlying4 hx
 exact ⟨a1,h1⟩
theorem opens_bools:Opens Tryz.prog 92 (sliceT boolT):=Opens.slice Tryz.underlying92 (by kernel_rfl) opens_bool
theorem opens_ev:Opens Tryz.prog 39 evT:=by
 intro H enc w base spare held fuel cs x hx
 obtain ⟨xs,n,_,_,hlen,hxl,hf⟩:=DataW.trod_struct Tryz.underlying39 hx
 have kk:Tryz.prog.cellsOf 39=4:=by kernel_rfl
 have k0:Tryz.prog.cellsOf 3=1:=by kernel_rfl
 have k1:Tryz.prog.cellsOf 37=1:=by kernel_rfl
 match cs,hlen.trans kk with
 | [c0,c1,c2,c3],_ =>
  match xs,hxl with
  | [y0,y1,y2,y3],_ =>
   have e0:DataW.trod enc Tryz.prog w base spare held n 3 [c0]=some y0:=by
    have h:DataW.trod enc Tryz.prog w base spare held n 3 (([c0,c1,c2,c3].drop 0).take (Tryz.prog.cellsOf 3))=some y0:=hf 0 _ rfl
    rw [k0] at h
    exact h
   have e1:DataW.trod enc Tryz.prog w base spare held n 3 [c1]=some y1:=by
    have h:DataW.trod enc Tryz.prog w base spare held n 3 (([c0,c1,c2,c3].drop 1).take (Tryz.prog.cellsOf 3))=some y1:=hf 1 _ rfl
    rw [k0] at h
    exact h
   have e2:DataW.trod enc Tryz.prog w base spare held n 3 [c2]=some y2:=by
    have h:DataW.trod enc Tryz.prog w base spare held n 3 (([c0,c1,c2,c3].drop 2).take (Tryz.prog.cellsOf 3))=some y2:=hf 2 _ rfl
    rw [k0] at h
    exact h
   have e3:DataW.trod enc Tryz.prog w base spare held n 37 [c3]=some y3:=by
    have h:DataW.trod enc Tryz.prog w base spare held n 37 (([c0,c1,c2,c3].drop 3).take (Tryz.prog.cellsOf 37))=some y3:=hf 3 _ rfl
    rw [k1] at h
    exact h
   obtain ⟨a,h0,_,w0⟩:=DataW.trod_int Tryz.underlying3 e0
   obtain ⟨b,h1,_,w1⟩:=DataW.trod_int Tryz.underlying3 e1
   obtain ⟨c,h2,_,w2⟩:=DataW.trod_int Tryz.underlying3 e2
   obtain ⟨l,lv,h3,w3⟩:=opens_ints enc w base spare held n [c3] _ e3
   simp at h0 h1 h2 h3
   subst h0 h1 h2 h3
   exact ⟨⟨a,b,c,l⟩,_,rfl,i64_of_wf w0,i64_of_wf w1,i64_of_wf w2,w3⟩
theorem opens_evs:Opens Tryz.prog 31 (sliceT evT):=Opens.slice Tryz.underlying31 (by kernel_rfl) opens_ev
theorem opens_cal:Opens Tryz.prog 94 calT:=by
 intro H enc w base spare held fuel cs x hx
 obtain ⟨xs,n,_,_,hlen,hxl,hf⟩:=DataW.trod_struct Tryz.underlying94 hx
 have kk:Tryz.prog.cellsOf 94=3:=by kernel_rfl
 have k0:Tryz.prog.cellsOf 3=1:=by kernel_rfl
 have k1:Tryz.prog.cellsOf 92=1:=by kernel_rfl
 have k2:Tryz.prog.cellsOf 37=1:=by kernel_rfl
 match cs,hlen.trans kk with
 | [c0,c1,c2],_ =>
  match xs,hxl with
  | [y0,y1,y2],_ =>
   have e0:DataW.trod enc Tryz.prog w base spare held n 3 [c0]=some y0:=by
    have h:DataW.trod enc Tryz.prog w base spare held n 3 (([c0,c1,c2].drop 0).take (Tryz.prog.cellsOf 3))=some y0:=hf 0 _ rfl
    rw [k0] at h
    exact h
   have e1:DataW.trod enc Tryz.prog w base spare held n 92 [c1]=some y1:=by
    have h:DataW.trod enc Tryz.prog w base spare held n 92 (([c0,c1,c2].drop 1).take (Tryz.prog.cellsOf 92))=some y1:=hf 1 _ rfl
    rw [k1] at h
    exact h
   have e2:DataW.trod enc Tryz.prog w base spare held n 37 [c2]=some y2:=by
    have h:DataW.trod enc Tryz.prog w base spare held n 37 (([c0,c1,c2].drop 2).take (Tryz.prog.cellsOf 37))=some y2:=hf 2 _ rfl
    rw [k2] at h
    exact h
   obtain ⟨a,h0,_,w0⟩:=DataW.trod_int Tryz.underlying3 e0
   obtain ⟨b,bv,h1,w1⟩:=opens_bools enc w base spare held n [c1] _ e1
   obtain ⟨c,cv,h2,w2⟩:=opens_ints enc w base spare held n [c2] _ e2
   simp at h0 h1 h2
   subst h0 h1 h2
   exact ⟨⟨a,b,c⟩,_,_,rfl,i64_of_wf w0,w1,w2⟩
theorem opens_cals:Opens Tryz.prog 22 (sliceT calT):=Opens.slice Tryz.underlying22 (by kernel_rfl) opens_cal
theorem opens_op:Opens Tryz.prog 98 strT:=by
 intro H enc w base spare held fuel cs x hx
 obtain ⟨xs,n,_,_,hlen,hxl,hf⟩:=DataW.trod_struct Tryz.underlying98 hx
 have kk:Tryz.prog.cellsOf 98=1:=by kernel_rfl
 have k0:Tryz.prog.cellsOf 9=1:=by kernel_rfl
 match cs,hlen.trans kk with
 | [c0],_ =>
  match xs,hxl with
  | [y0],_ =>
   have e0:DataW.trod enc Tryz.prog w base spare held n 9 [c0]=some y0:=by
    have h:DataW.trod enc Tryz.prog w base spare held n 9 (([c0].drop 0).take (Tryz.prog.cellsOf 9))=some y0:=hf 0 _ rfl
    rw [k0] at h
    exact h
   obtain ⟨a,h0,_,w0⟩:=DataW.trod_string Tryz.underlying9 e0
   simp at h0
   subst h0
   exact ⟨a,rfl,w0⟩
theorem opens_ops:Opens Tryz.prog 24 (sliceT strT):=Opens.slice Tryz.underlying24 (by kernel_rfl) opens_op
theorem opens_of:Opens Tryz.prog 96 ofT:=by
 intro H enc w base spare held fuel cs x hx
 obtain ⟨xs,n,_,_,hlen,hxl,hf⟩:=DataW.trod_struct Tryz.underlying96 hx
 have kk:Tryz.prog.cellsOf 96=7:=by kernel_rfl
 have k0:Tryz.prog.cellsOf 9=1:=by kernel_rfl
 have k1:Tryz.prog.cellsOf 3=1:=by kernel_rfl
 have k2:Tryz.prog.cellsOf 23=1:=by kernel_rfl
 match cs,hlen.trans kk with
 | [c0,c1,c2,c3,c4,c5,c6],_ =>
  match xs,hxl with
  | [y0,y1,y2,y3,y4,y5,y6],_ =>
   have e0:DataW.trod enc Tryz.prog w base spare held n 9 [c0]=some y0:=by
    have h:DataW.trod enc Tryz.prog w base spare held n 9 (([c0,c1,c2,c3,c4,c5,c6].drop 0).take (Tryz.prog.cellsOf 9))=some y0:=hf 0 _ rfl
    rw [k0] at h
    exact h
   have e1:DataW.trod enc Tryz.prog w base spare held n 3 [c1]=some y1:=by
    have h:DataW.trod enc Tryz.prog w base spare held n 3 (([c0,c1,c2,c3,c4,c5,c6].drop 1).take (Tryz.prog.cellsOf 3))=some y1:=hf 1 _ rfl
    rw [k1] at h
    exact h
   have e2:DataW.trod enc Tryz.prog w base spare held n 3 [c2]=some y2:=by
    have h:DataW.trod enc Tryz.prog w base spare held n 3 (([c0,c1,c2,c3,c4,c5,c6].drop 2).take (Tryz.prog.cellsOf 3))=some y2:=hf 2 _ rfl
    rw [k1] at h
    exact h
   have e3:DataW.trod enc Tryz.prog w base spare held n 3 [c3]=some y3:=by
    have h:DataW.trod enc Tryz.prog w base spare held n 3 (([c0,c1,c2,c3,c4,c5,c6].drop 3).take (Tryz.prog.cellsOf 3))=some y3:=hf 3 _ rfl
    rw [k1] at h
    exact h
   have e4:DataW.trod enc Tryz.prog w base spare held n 3 [c4]=some y4:=by
    have h:DataW.trod enc Tryz.prog w base spare held n 3 (([c0,c1,c2,c3,c4,c5,c6].drop 4).take (Tryz.prog.cellsOf 3))=some y4:=hf 4 _ rfl
    rw [k1] at h
    exact h
   have e5:DataW.trod enc Tryz.prog w base spare held n 3 [c5]=some y5:=by
    have h:DataW.trod enc Tryz.prog w base spare held n 3 (([c0,c1,c2,c3,c4,c5,c6].drop 5).take (Tryz.prog.cellsOf 3))=some y5:=hf 5 _ rfl
    rw [k1] at h
    exact h
   have e6:DataW.trod enc Tryz.prog w base spare held n 23 [c6]=some y6:=by
    have h:DataW.trod enc Tryz.prog w base spare held n 23 (([c0,c1,c2,c3,c4,c5,c6].drop 6).take (Tryz.prog.cellsOf 23))=some y6:=hf 6 _ rfl
    rw [k2] at h
    exact h
   obtain ⟨a,h0,_,w0⟩:=DataW.trod_string Tryz.underlying9 e0
   obtain ⟨b,h1,_,w1⟩:=DataW.trod_int Tryz.underlying3 e1
   obtain ⟨c,h2,_,w2⟩:=DataW.trod_int Tryz.underlying3 e2
   obtain ⟨d,h3,_,w3⟩:=DataW.trod_int Tryz.underlying3 e3
   obtain ⟨e,h4,_,w4⟩:=DataW.trod_int Tryz.underlying3 e4
   obtain ⟨f,h5,_,w5⟩:=DataW.trod_int Tryz.underlying3 e5
   obtain ⟨g,gv,h6,w6⟩:=opens_strs enc w base spare held n [c6] _ e6
   simp at h0 h1 h2 h3 h4 h5 h6
   subst h0 h1 h2 h3 h4 h5 h6
   exact ⟨⟨a,b,c,d,e,f,g⟩,_,rfl,w0,i64_of_wf w1,i64_of_wf w2,i64_of_wf w3,i64_of_wf w4,i64_of_wf w5,w6⟩
theorem opens_ofs:Opens Tryz.prog 25 (sliceT ofT):=Opens.slice Tryz.underlying25 (by kernel_rfl) opens_of
theorem opens_li:Opens Tryz.prog 36 liT:=by
 intro H enc w base spare held fuel cs x hx
 obtain ⟨xs,n,_,_,hlen,hxl,hf⟩:=DataW.trod_struct Tryz.underlying36 hx
 have kk:Tryz.prog.cellsOf 36=6:=by kernel_rfl
 have k0:Tryz.prog.cellsOf 9=1:=by kernel_rfl
 have k1:Tryz.prog.cellsOf 3=1:=by kernel_rfl
 match cs,hlen.trans kk with
 | [c0,c1,c2,c3,c4,c5],_ =>
  match xs,hxl with
  | [y0,y1,y2,y3,y4,y5],_ =>
   have e0:DataW.trod enc Tryz.prog w base spare held n 9 [c0]=some y0:=by
    have h:DataW.trod enc Tryz.prog w base spare held n 9 (([c0,c1,c2,c3,c4,c5].drop 0).take (Tryz.prog.cellsOf 9))=some y0:=hf 0 _ rfl
    rw [k0] at h
    exact h
   have e1:DataW.trod enc Tryz.prog w base spare held n 3 [c1]=some y1:=by
    have h:DataW.trod enc Tryz.prog w base spare held n 3 (([c0,c1,c2,c3,c4,c5].drop 1).take (Tryz.prog.cellsOf 3))=some y1:=hf 1 _ rfl
    rw [k1] at h
    exact h
   have e2:DataW.trod enc Tryz.prog w base spare held n 3 [c2]=some y2:=by
    have h:DataW.trod enc Tryz.prog w base spare held n 3 (([c0,c1,c2,c3,c4,c5].drop 2).take (Tryz.prog.cellsOf 3))=some y2:=hf 2 _ rfl
    rw [k1] at h
    exact h
   have e3:DataW.trod enc Tryz.prog w base spare held n 3 [c3]=some y3:=by
    have h:DataW.trod enc Tryz.prog w base spare held n 3 (([c0,c1,c2,c3,c4,c5].drop 3).take (Tryz.prog.cellsOf 3))=some y3:=hf 3 _ rfl
    rw [k1] at h
    exact h
   have e4:DataW.trod enc Tryz.prog w base spare held n 3 [c4]=some y4:=by
    have h:DataW.trod enc Tryz.prog w base spare held n 3 (([c0,c1,c2,c3,c4,c5].drop 4).take (Tryz.prog.cellsOf 3))=some y4:=hf 4 _ rfl
    rw [k1] at h
    exact h
   have e5:DataW.trod enc Tryz.prog w base spare held n 3 [c5]=some y5:=by
    have h:DataW.trod enc Tryz.prog w base spare held n 3 (([c0,c1,c2,c3,c4,c5].drop 5).take (Tryz.prog.cellsOf 3))=some y5:=hf 5 _ rfl
    rw [k1] at h
    exact h
   obtain ⟨a,h0,_,w0⟩:=DataW.trod_string Tryz.underlying9 e0
   obtain ⟨b,h1,_,w1⟩:=DataW.trod_int Tryz.underlying3 e1
   obtain ⟨c,h2,_,w2⟩:=DataW.trod_int Tryz.underlying3 e2
   obtain ⟨d,h3,_,w3⟩:=DataW.trod_int Tryz.underlying3 e3
   obtain ⟨e,h4,_,w4⟩:=DataW.trod_int Tryz.underlying3 e4
   obtain ⟨f,h5,_,w5⟩:=DataW.trod_int Tryz.underlying3 e5
   simp at h0 h1 h2 h3 h4 h5
   subst h0 h1 h2 h3 h4 h5
   exact ⟨⟨a,b,c,d,e,f⟩,rfl,w0,i64_of_wf w1,i64_of_wf w2,i64_of_wf w3,i64_of_wf w4,i64_of_wf w5⟩
theorem opens_lis:Opens Tryz.prog 26 (sliceT liT):=Opens.slice Tryz.underlying26 (by kernel_rfl) opens_li
theorem opens_cla:Opens Tryz.prog 150 claT:=by
 intro H enc w base spare held fuel cs x hx
 obtain ⟨xs,n,_,_,hlen,hxl,hf⟩:=DataW.trod_struct Tryz.underlying150 hx
 have kk:Tryz.prog.cellsOf 150=3:=by kernel_rfl
 have k0:Tryz.prog.cellsOf 9=1:=by kernel_rfl
 have k1:Tryz.prog.cellsOf 3=1:=by kernel_rfl
 match cs,hlen.trans kk with
 | [c0,c1,c2],_ =>
  match xs,hxl with
  | [y0,y1,y2],_ =>
   have e0:DataW.trod enc Tryz.prog w base spare held n 9 [c0]=some y0:=by
    have h:DataW.trod enc Tryz.prog w base spare held n 9 (([c0,c1,c2].drop 0).take (Tryz.prog.cellsOf 9))=some y0:=hf 0 _ rfl
    rw [k0] at h
    exact h
   have e1:DataW.trod enc Tryz.prog w base spare held n 3 [c1]=some y1:=by
    have h:DataW.trod enc Tryz.prog w base spare held n 3 (([c0,c1,c2].drop 1).take (Tryz.prog.cellsOf 3))=some y1:=hf 1 _ rfl
    rw [k1] at h
    exact h
   have e2:DataW.trod enc Tryz.prog w base spare held n 3 [c2]=some y2:=by
    have h:DataW.trod enc Tryz.prog w base spare held n 3 (([c0,c1,c2].drop 2).take (Tryz.prog.cellsOf 3))=some y2:=hf 2 _ rfl
    rw [k1] at h
    exact h
   obtain ⟨a,h0,_,w0⟩:=DataW.trod_string Tryz.underlying9 e0
   obtain ⟨b,h1,_,w1⟩:=DataW.trod_int Tryz.underlying3 e1
   obtain ⟨c,h2,_,w2⟩:=DataW.trod_int Tryz.underlying3 e2
   simp at h0 h1 h2
   subst h0 h1 h2
   exact ⟨⟨a,b,c⟩,rfl,w0,i64_of_wf w1,i64_of_wf w2⟩
theorem opens_clas:Opens Tryz.prog 27 (sliceT claT):=Opens.slice Tryz.underlying27 (by kernel_rfl) opens_cla
def netT:Ty Net where
 n:=6
 rep:=fun F w cs N=> ∃v:NV,cs=v.cells∧NetIn F w v N
 len:=fun _ _ _ _ h=>by obtain ⟨v,h,_⟩:=h; rw [h]; rfl
 mono:=fun _ _ _ _ _ hk h=>by obtain ⟨v,h,h1⟩:=h; exact ⟨v,h,h1.c.mono hk,h1.n.mono hk,h1.o.mono hk,h1.f.mono hk,h1.l.mono hk,h1.k.mono hk⟩
 wider:=fun _ _ _ _ _ hF h=>by obtain ⟨v,h,h1⟩:=h; exact ⟨v,h,h1.wider hF⟩
theorem opens_net:Opens Tryz.prog 29 netT:=by
 intro H enc w base spare held fuel cs x hx
 obtain ⟨xs,n,_,_,hlen,hxl,hf⟩:=DataW.trod_struct Tryz.underlying29 hx
 have kk:Tryz.prog.cellsOf 29=6:=by kernel_rfl
 have k0:Tryz.prog.cellsOf 22=1:=by kernel_rfl
 have k1:Tryz.prog.cellsOf 23=1:=by kernel_rfl
 have k2:Tryz.prog.cellsOf 24=1:=by kernel_rfl
 have k3:Tryz.prog.cellsOf 25=1:=by kernel_rfl
 have k4:Tryz.prog.cellsOf 26=1:=by kernel_rfl
 have k5:Tryz.prog.cellsOf 27=1:=by kernel_rfl
 match cs,hlen.trans kk with
 | [c0,c1,c2,c3,c4,c5],_ =>
  match xs,hxl with
  | [y0,y1,y2,y3,y4,y5],_ =>
   have e0:DataW.trod enc Tryz.prog w base spare held n 22 [c0]=some y0:=by
    have h:DataW.trod enc Tryz.prog w base spare held n 22 (([c0,c1,c2,c3,c4,c5].drop 0).take (Tryz.prog.cellsOf 22))=some y0:=hf 0 _ rfl
    rw [k0] at h
    exact h
   have e1:DataW.trod enc Tryz.prog w base spare held n 23 [c1]=some y1:=by
    have h:DataW.trod enc Tryz.prog w base spare held n 23 (([c0,c1,c2,c3,c4,c5].drop 1).take (Tryz.prog.cellsOf 23))=some y1:=hf 1 _ rfl
    rw [k1] at h
    exact h
   have e2:DataW.trod enc Tryz.prog w base spare held n 24 [c2]=some y2:=by
    have h:DataW.trod enc Tryz.prog w base spare held n 24 (([c0,c1,c2,c3,c4,c5].drop 2).take (Tryz.prog.cellsOf 24))=some y2:=hf 2 _ rfl
    rw [k2] at h
    exact h
   have e3:DataW.trod enc Tryz.prog w base spare held n 25 [c3]=some y3:=by
    have h:DataW.trod enc Tryz.prog w base spare held n 25 (([c0,c1,c2,c3,c4,c5].drop 3).take (Tryz.prog.cellsOf 25))=some y3:=hf 3 _ rfl
    rw [k3] at h
    exact h
   have e4:DataW.trod enc Tryz.prog w base spare held n 26 [c4]=some y4:=by
    have h:DataW.trod enc Tryz.prog w base spare held n 26 (([c0,c1,c2,c3,c4,c5].drop 4).take (Tryz.prog.cellsOf 26))=some y4:=hf 4 _ rfl
    rw [k4] at h
    exact h
   have e5:DataW.trod enc Tryz.prog w base spare held n 27 [c5]=some y5:=by
    have h:DataW.trod enc Tryz.prog w base spare held n 27 (([c0,c1,c2,c3,c4,c5].drop 5).take (Tryz.prog.cellsOf 27))=some y5:=hf 5 _ rfl
    rw [k5] at h
    exact h
   obtain ⟨a,av,h0,w0⟩:=opens_cals enc w base spare held n [c0] _ e0
   obtain ⟨b,bv,h1,w1⟩:=opens_strs enc w base spare held n [c1] _ e1
   obtain ⟨c,cv,h2,w2⟩:=opens_ops enc w base spare held n [c2] _ e2
   obtain ⟨d,dv,h3,w3⟩:=opens_ofs enc w base spare held n [c3] _ e3
   obtain ⟨e,ev,h4,w4⟩:=opens_lis enc w base spare held n [c4] _ e4
   obtain ⟨f,fv,h5,w5⟩:=opens_clas enc w base spare held n [c5] _ e5
   simp at h0 h1 h2 h3 h4 h5
   subst h0 h1 h2 h3 h4 h5
   exact ⟨⟨a,b,c,d,e,f⟩,⟨_,_,_,_,_,_⟩,rfl,⟨w0,w1,w2,w3,w4,w5⟩⟩
theorem strs_of_array {H:Type} {enc:TypeId×Value→H} {P:Program} {w:World} {base:Nat} {sp:Nat→Bool} {held:Bool} {fuel:Nat} {t e:TypeId} {n:Nat} {cs:List Value} {ss:List ByteArray} {p:List MemPlace} (ht:P.underlying t=some (.array n e)) (he:P.underlying e=some .string) (hce:P.cellsOf e=1) (hct:P.cellsOf t=n)
 (h:DataW.trod enc P w base sp held fuel t cs=some (.agg (ss.map fun s=> .lit (.string s.data.toList)),p)):cs=ss.map Value.string:=by
 obtain ⟨xs,m,rfl,hx,hl,hxl,hall⟩:=DataW.trod_array ht h
 have hxs:xs.map (·.1)=ss.map fun s=>(DataW.lit (.string s.data.toList):DataW H):=by
  have:=congrArg Prod.fst hx
  simpa using this.symm
 have hsl:ss.length=n:=by
  have:=congrArg List.length hxs
  simp at this
  omega
 apply List.ext_getElem?
 intro i
 by_cases hi:i<n
 ·have h1:=hall i hi
  obtain ⟨b,hb⟩: ∃b,xs[i]?=some b:=⟨xs[i]'(by omega),List.getElem?_eq_getElem (by omega)⟩
  rw [hb,hce] at h1
  obtain ⟨s,hcs,rfl,_⟩:=DataW.trod_string he h1
  have h2:cs[i]?=some (.string s):=by
   have:=congrArg (·[0]?) hcs
   simpa [List.getElem?_take,List.getElem?_drop] using this
  have h3:(xs.map (·.1))[i]?=some (DataW.lit (.string s.data.toList):DataW H):=by simp [hb]
  rw [hxs] at h3
  simp only [List.getElem?_map,Option.map_eq_some_iff,DataW.lit.injEq,Lit.string.injEq] at h3
  obtain ⟨z,hz,hzs⟩:=h3
  have:z=s:=ByteArray.ext (Array.toList_inj.1 hzs)
  subst this
  simp [h2,hz]
 ·rw [List.getElem?_eq_none (by omega),List.getElem?_eq_none (by simp; omega)]
abbrev laidAll:List (String×DataW Unit):= [("postilion/survey.keyWords",Rows.laid_postilion_survey_keyWords)]
theorem gKey:Tryz.prog.globalNamed "postilion/survey.keyWords" = some 0:=by kernel_rfl
theorem tKey:(Tryz.prog.globals[0]?).map (·.type)=some 186:=by kernel_rfl
theorem keyData:(Rows.laid_postilion_survey_keyWords:DataW Unit)= .agg (keys11.map fun s=> .lit (.string s.data.toList)):=by rfl
theorem tabs_of_laid {W:World} (h:laidMetH Tryz.prog laidAll W):Tabs W:=by
 rw [MakeChecks.laidMetH_plain _ _ _ (by kernel_rfl)] at h
 obtain ⟨ps,⟨g0,t0,cs0,f0,p0,q0,hg0,ht0,hv0,hd0,_,_⟩,_,_⟩:=h
 obtain rfl:=Option.some.inj (gKey.symm.trans hg0)
 obtain rfl:=Option.some.inj (tKey.symm.trans ht0)
 rw [keyData] at hd0
 have c0:=strs_of_array Tryz.underlying186 Tryz.underlying9 (by kernel_rfl) (by kernel_rfl) hd0
 refine ⟨fun i s hs=> ?_⟩
 have hv:W.var? Tryz.prog "postilion/survey.keyWords" = some (keys11.map Value.string).toArray:=by rw [hv0,←c0]
 have hi:i<keys11.length:=(List.getElem?_eq_some_iff.1 hs).1
 have:=World.var?_cell gKey hv i
 rw [this]
 simp [hs]
end Go.Proofs.YtffjgpoadfkjlaaGreatDoor
namespace Go.PF
open Go.RowKit Go.ChangeShapes Go.WideShapes Go.ChangeAt
section
variable {H:Type} {enc:TypeId×Value→H} {P:Program} {w:World} {base:Nat} {spare:Nat→Bool} {held:Bool}
theorem trodAll_seven {t0 t1 t2 t3 t4 t5 t6:TypeId} {args:Array Value} {ds:List (DataW H)} {ps:List MemPlace} (h:DataW.TrodAll enc P w base spare held [t0,t1,t2,t3,t4,t5,t6] args.toList ds ps) :
  ∃ v0 v1 v2 v3 v4 v5 v6 d0 d1 d2 d3 d4 d5 d6 p0 p1 p2 p3 p4 p5 p6,args= #[v0,v1,v2,v3,v4,v5,v6]∧ds= [d0,d1,d2,d3,d4,d5,d6]∧ps=p0++p1++p2++p3++p4++p5++p6∧DataW.Trod enc P w base spare held t0 v0 d0 p0∧DataW.Trod enc P w base spare held t1 v1 d1 p1∧DataW.Trod enc P w base spare held t2 v2 d2 p2∧DataW.Trod enc P w base spare held t3 v3 d3 p3∧DataW.Trod enc P w base spare held t4 v4 d4 p4∧DataW.Trod enc P w base spare held t5 v5 d5 p5∧DataW.Trod enc P w base spare held t6 v6 d6 p6:=by
 obtain ⟨v0,vs0,d0,ds0,p0,q0,hargs,rfl,rfl,hd0,h0⟩:=trodAll_cons h
 obtain ⟨v1,vs1,d1,ds1,p1,q1,rfl,rfl,rfl,hd1,h1⟩:=trodAll_cons h0
 obtain ⟨v2,vs2,d2,ds2,p2,q2,rfl,rfl,rfl,hd2,h2⟩:=trodAll_cons h1
 obtain ⟨v3,vs3,d3,ds3,p3,q3,rfl,rfl,rfl,hd3,h3⟩:=trodAll_cons h2
 obtain ⟨v4,vs4,d4,ds4,p4,q4,rfl,rfl,rfl,hd4,h4⟩:=trodAll_cons h3
 obtain ⟨v5,vs5,d5,ds5,p5,q5,rfl,rfl,rfl,hd5,h5⟩:=trodAll_cons h4
 obtain ⟨v6,vs6,d6,ds6,p6,q6,rfl,rfl,rfl,hd6,h6⟩:=trodAll_cons h5
 obtain ⟨rfl,rfl,rfl⟩:=trodAll_nil h6
 exact ⟨v0,v1,v2,v3,v4,v5,v6,d0,d1,d2,d3,d4,d5,d6,p0,p1,p2,p3,p4,p5,p6,by cases args; simp_all,rfl,by simp,hd0,hd1,hd2,hd3,hd4,hd5,hd6⟩
end
end Go.PF
