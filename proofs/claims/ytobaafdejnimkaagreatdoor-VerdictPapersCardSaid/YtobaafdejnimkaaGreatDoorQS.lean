/- Texts of this claim,joined. -/
import Derived.Test.YtobaafdejnimkaaGreatDoorQR
import Derived.ProofKit
import Derived.JoinedOf
import Derived.Deep.Slices
import Derived.SizedLaws
import Derived.Test.YtobaafdejnimkaaGreatDoorRows
import Derived.Test.YtobaafdejnimkaaGreatDoorCards
import Derived.Test.YtobaafdejnimkaaGreatDoorTie
import Derived.LaidMore
import Derived.OpenShut
import Derived.Stop.Joined
import Derived.SevenTiedAt
set_option linter.unusedSimpArgs false
set_option linter.unusedVariables false
set_option maxRecDepth 100000
set_option maxHeartbeats 4000000
namespace Go.Proofs.YtobaafdejnimkaaGreatDoor
open Go.PF Go.RowKit Go.Ord
attribute [local irreducible] TW CW KW DW
variable {w:World} {N:Net} {l:List Ev} {c:Cl} {d:Dist} {ws:List (List Int)} {F:Nat→Prop} {v:NV}
theorem rints_c {v u:Value} {a b:List Int} {G:Nat→Prop} (ha:SL intT F w v a) (hb:SL intT G w u b):Gives Tryz.prog 15 #[v,u] w fun x w'=>Below w.heap.size w w'∧x= .bool (decide (a=b)):=by
 obtain ⟨A,cap,rfl,_⟩:=ha.form
 obtain ⟨B,bcap,rfl,_⟩:=hb.form
 have hma:=ha.len.2.2
 have hmb:=hb.len.2.2
 refine gv (f:=15) ?_
 refine rnT ?_
 refine CW.condP rfl (fun hne=> ?_) (fun heq=> ?_)
 ·refine rnT ?_
  refine rt1 rfl ⟨Below.refl _ _,by rw [decide_eq_false fun h=>by rw [h] at hne; exact hne rfl]⟩
 have hl:a.length=b.length:=by omega
 refine rnT ?_
 refine CW.lp [0,1] (fun i:Nat=> [(5,none,.int .i64 (i:Int))])
  (fun i W=>i≤a.length∧Below w.heap.size w W∧a.take i=b.take i) (fun i=>a.length-i) 0 ⟨Nat.zero_le _,Below.refl _ _,by simp⟩ ?_
 rintro i W ⟨hi,hB,hall⟩
 refine rnT ?_
 refine CW.condP rfl (fun hlt=> ?_) (fun hge=> ?_)
 ·obtain ⟨x,hx,hxm⟩:=getx (l:=a) (k:=i) (by omega)
  obtain ⟨y,hy,hym⟩:=getx (l:=b) (k:=i) (by omega)
  have haW:=ha.below hB
  have hbW:=hb.below hB
  obtain ⟨ad,rfl⟩:=haW.addr (by omega)
  obtain ⟨bd,rfl⟩:=hbW.addr (by omega)
  refine rnT ?_
  refine CW.draw mixed (by kernel_rfl) ?_
  refine rnD ?_
  refine DW.ld rfl (haW.getI hx) ?_
  refine rnD ?_
  refine DW.ld rfl (hbW.getI hy) ?_
  refine rnD ?_
  refine DW.fi [0,1,5,25] rfl fun w2 b2=> ?_
  refine KW.then_ ?_
  refine CW.condP rfl (fun hne2=> ?_) (fun heq2=> ?_)
  ·refine rnT ?_
   refine rt1 rfl ⟨hB.step b2,by rw [decide_eq_false fun h=>by rw [h,hy] at hx; cases hx; exact hne2 rfl]⟩
  ·refine rnT ?_
   refine KW.rd (i+1) ⟨by omega,hB.step b2,?_⟩
   rw [List.take_add_one,List.take_add_one,hall,hx,hy,show x=y by omega]
 ·refine rnT ?_
  refine rt1 rfl ⟨hB,?_⟩
  rw [List.take_of_length_le (by omega),List.take_of_length_le (by omega)] at hall
  rw [decide_eq_true hall]
theorem lit_pp {g:Nat} {t:Int} {e:TypeId} {A:Option Addr} {pc:Nat} (h0:0≤t) (h1:t≤1000000) (h:Blk w g e (ppV (papS t) (.slice A 1 pc))) (hp:SI w (.slice A 1 pc) [leafS (bya 66)]):SPp w (.slice (some ⟨g,0,none⟩) 1 1) [papS t]:=litP (T:=ppT) (by decide) [(ppV (papS t) (.slice A 1 pc),papS t)] h rfl (fun p hp'=>by
 rw [List.mem_singleton] at hp'
 subst hp'
 exact ⟨_,rfl,doc_dc (sgn_ok (docS_ok h0 h1)) (by decide),low_i64 (x:=0) (by decide),hp⟩) (by simp)
theorem head_c (ht:Tabs w):Gives Tryz.prog 10 #[] w fun u w'=>Below w.heap.size w w'∧u= .bool true:=by
 refine gv (f:=10) ?_
 refine rnT ?_
 refine TW.cl rfl (example_c) ?_
 rintro y w1 ⟨b1,v,rfl,hN1⟩
 have hone:(v.cells.all fun x=>x.oneCell')=true:=by
  obtain ⟨⟨A1,c1,e1⟩,⟨A2,c2,e2⟩,⟨A3,c3,e3⟩,⟨A4,c4,e4⟩,⟨A5,c5,e5⟩,⟨A6,c6,e6⟩⟩:=NetIn.form hN1
  simp only [NV.cells,e1,e2,e3,e4,e5,e6]
  rfl
 refine TW.newVar rfl zc29 rfl sz29 rfl hone ?_
 rintro g1 w2 f2
 refine rnT ?_
 have hN2:=net_step hN1 f2.below
 have b2:=b1.step f2.below
 have hB2:=f2.blk
 refine TW.ldS rfl (fun _ _ hv=>hB2.fld hv) ?_
 refine TW.cl rfl (dist35_c (ht.below b2) hN2) ?_
 rintro dv w3 ⟨b3,hd3⟩
 refine rnT ?_
 refine TW.buildSlice 3 _ rfl rfl rfl eo32 (Args.cons rfl ct Args.nil) rfl rfl rfl rfl rfl ?_
 rintro g4 w4 f4
 refine TW.build [1,2,3] _ [.int .i64 0,.int .i64 100,.int .i64 100,.slice (some ⟨g4,0,none⟩) 1 1] rfl rfl rfl (Args.cons rfl ct (Args.cons rfl ct (Args.cons rfl ct Args.nil))) (by kernel_rfl) ?_
 refine TW.buildSlice 60 _ rfl rfl rfl eo31 (Args.cons rfl ct Args.nil) rfl rfl rfl rfl rfl ?_
 rintro g5 w5 f5
 refine rnT ?_
 refine TW.pk [0,1,2,3] rfl ?_
 refine TW.buildSlice 3 _ rfl rfl rfl eo32 (Args.cons rfl ct Args.nil) rfl rfl rfl rfl rfl ?_
 rintro g6 w6 f6
 refine TW.build [0,1,2,3] _ [.int .i64 1,.int .i64 150,.int .i64 160,.slice (some ⟨g6,0,none⟩) 1 1] rfl rfl rfl (Args.cons rfl ct (Args.cons rfl ct (Args.cons rfl ct (Args.cons rfl ct Args.nil)))) (by kernel_rfl) ?_
 refine TW.buildSlice 60 _ rfl rfl rfl eo31 (Args.cons rfl ct Args.nil) rfl rfl rfl rfl rfl ?_
 rintro g7 w7 f7
 refine rnT ?_
 have b57:=f6.below.step f7.below
 have b47:=f5.below.step b57
 have h57:=f5.blk.next b57
 have hO7:OwnS w7 60 4 (.slice (some ⟨g7,0,none⟩) 1 1) 1 [.int .i64 1,.int .i64 150,.int .i64 160,.slice (some ⟨g6,0,none⟩) 1 1]:=OwnS.of_blk (n:=1) f7.blk rfl (by decide)
 refine TW.append [.int .i64 0,.int .i64 100,.int .i64 100,.slice (some ⟨g4,0,none⟩) 1 1] rfl rfl go31 rfl hO7 rfl rfl (fun j u hj=>⟨_,rfl,h57.fld hj⟩) (fun u hu=>by
  simp only [List.mem_cons,List.not_mem_nil,or_false] at hu
  rcases hu with rfl|rfl|rfl|rfl<;>rfl) (by decide) (by decide) ?_
 rintro v8 w8 hO8 hg8 hn8
 refine rnT ?_
 have a4:=f4.at_
 have a5:=f5.at_
 have a6:=f6.at_
 have a7:=f7.at_
 have z4:=f4.size
 have z5:=f5.size
 have z6:=f6.size
 have z7:=f7.size
 have hk8: ∀ {g:Nat} {t:TypeId} {cs:List Value},Blk w7 g t cs→g≠g7→Blk w8 g t cs:=fun h hne=>Blk.keptO h hg8 (fun e=>hne (by simp [Value.ownBlock] at e; omega))
 have b37:=f4.below.step b47
 have s23:=b3.size
 have b28:Below w2.heap.size w2 w8:=(b3.step b37).grown hg8 (b3.step b37).size (fun q hq=>by simp [Value.ownBlock] at hq; omega)
 have n0:SI w8 (.slice (some ⟨g4,0,none⟩) 1 1) [0]:=lit_int _ (hk8 (f4.blk.next b47) (by omega)) rfl (by decide) (by decide)
 have n1:SI w8 (.slice (some ⟨g6,0,none⟩) 1 1) [1]:=lit_int _ (hk8 (f6.blk.next f7.below) (by omega)) rfl (by decide) (by decide)
 have r0:evT.rep (fun k=>k<w8.heap.size) w8 [.int .i64 0,.int .i64 100,.int .i64 100,.slice (some ⟨g4,0,none⟩) 1 1] e0:=⟨_,rfl,low_i64 (x:=0) (by decide),low_i64 (x:=100) (by decide),low_i64 (x:=100) (by decide),n0⟩
 have r1:evT.rep (fun k=>k<w8.heap.size) w8 [.int .i64 1,.int .i64 150,.int .i64 160,.slice (some ⟨g6,0,none⟩) 1 1] e1:=⟨_,rfl,low_i64 (x:=1) (by decide),low_i64 (x:=150) (by decide),low_i64 (x:=160) (by decide),n1⟩
 have hE1:SE w8 (.slice (some ⟨g5,0,none⟩) 1 1) ev1:=litP (T:=evT) (by decide) [([.int .i64 0,.int .i64 100,.int .i64 100,.slice (some ⟨g4,0,none⟩) 1 1],e0)] (hk8 h57 (by omega)) rfl (fun p hp=>by
  rw [List.mem_singleton] at hp
  subst hp
  exact r0) (by simp)
 have hE2:SE w8 v8 ev2:=OwnS.toSLp (T:=evT) (F:=fun k=>k<w8.heap.size) [([.int .i64 1,.int .i64 150,.int .i64 160,.slice (some ⟨g6,0,none⟩) 1 1],e1),([.int .i64 0,.int .i64 100,.int .i64 100,.slice (some ⟨g4,0,none⟩) 1 1],e0)] (fun p hp=>by
  simp only [List.mem_cons,List.not_mem_nil,or_false] at hp
  rcases hp with rfl|rfl
  ·exact r1
  ·exact r0) (by decide) hO8 rfl (fun q hq=>hO8.lt hq) (by simp)
 refine TW.buildSlice 32 _ rfl rfl rfl eo30 (Args.cons rfl ct Args.nil) rfl rfl rfl rfl rfl ?_
 rintro g9 w9 f9
 refine rnT ?_
 have hS9:SD w9 (.slice (some ⟨g9,0,none⟩) 1 1) [[]]:=lit_rows [(.slice none 0 0,[])] f9.blk rfl (by simp; exact SL.nil _ _ _) (by simp)
 have b29:=b28.step f9.below
 have b9:=b2.step b29
 have ht9:=ht.below b9
 have hN9:=net_step hN2 b29
 have hd9:SD w9 dv d0:=by
  have q38:Below w3.heap.size w3 w8:=b37.grown hg8 b37.size (fun q hq=>by simp [Value.ownBlock] at hq; omega)
  exact sd_step hd3 (q38.step f9.below)
 have hE19:=se_step hE1 f9.below
 have hE29:=se_step hE2 f9.below
 have hB9:=hB2.next b29
 have ne1: ∀e∈ev1,e.needs.length≤1000000:=by decide
 have ne2: ∀e∈ev2,e.needs.length≤1000000:=by decide
 refine TW.cl rfl (ldecide_c (l:=ev1) (ps:= []) (st:=1) (op:=0) ht9 hE19 (SL.nil _ _ _) ne1 (low_i64 (by decide)) (by rw [dec_one (by decide),exc_nil]; rfl)) ?_
 rintro y w10 ⟨b10,rfl⟩
 have c10:=b10
 refine TW.build [0] _ [.int .i64 1,.int .i64 0] rfl rfl rfl (Args.cons rfl ct Args.nil) (by kernel_rfl) ?_
 refine TW.eqlT rfl rfl rfl ct rfl ct (by kernel_rfl) ?_
 refine rnT ?_
 refine TW.cl rfl (paper_c (t:=140) (by decide) (by decide)) ?_
 rintro y w11 ⟨b11,PA11,pc11,rfl,hp11⟩
 refine TW.buildSlice 67 _ rfl rfl rfl eo33 (Args.cons rfl ct Args.nil) rfl rfl rfl rfl rfl ?_
 rintro g11p w11p f11p
 have hP11:=lit_pp (by decide) (by decide) f11p.blk (hp11.step intT_now f11p.below)
 have c11:Below w9.heap.size w9 w11p:=(c10.step b11).step f11p.below
 refine TW.cl rfl (ldecide_c (l:=ev1) (ps:= [papS 140]) (st:=1) (op:= -1) (ht9.below c11) (se_step hE19 c11) hP11 ne1 (low_i64 (by decide)) (by rw [dec_one (by simp),exc_early,dec_pos ⟨rfl,by decide⟩]; rfl)) ?_
 rintro y w12 ⟨b12,rfl⟩
 have c12:=c11.step b12
 refine TW.build [0,1] _ [.int .i64 1,.int .i64 (-1)] rfl rfl rfl (Args.cons rfl ct (Args.cons rfl ct Args.nil)) (by kernel_rfl) ?_
 refine TW.eqlT rfl rfl rfl ct rfl ct (by kernel_rfl) ?_
 refine rnT ?_
 refine TW.cl rfl (paper_c (t:=160) (by decide) (by decide)) ?_
 rintro y w13 ⟨b13,PA13,pc13,rfl,hp13⟩
 refine TW.buildSlice 67 _ rfl rfl rfl eo33 (Args.cons rfl ct Args.nil) rfl rfl rfl rfl rfl ?_
 rintro g13p w13p f13p
 have hP13:=lit_pp (by decide) (by decide) f13p.blk (hp13.step intT_now f13p.below)
 have c13:Below w9.heap.size w9 w13p:=(c12.step b13).step f13p.below
 refine TW.cl rfl (ldecide_c (l:=ev1) (ps:= [papS 160]) (st:=1) (op:=0) (ht9.below c13) (se_step hE19 c13) hP13 ne1 (low_i64 (by decide)) (by rw [dec_one (by simp),exc_late]; rfl)) ?_
 rintro y w14 ⟨b14,rfl⟩
 have c14:=c13.step b14
 refine TW.build [0] _ [.int .i64 1,.int .i64 0] rfl rfl rfl (Args.cons rfl ct Args.nil) (by kernel_rfl) ?_
 refine TW.eqlT rfl rfl rfl ct rfl ct (by kernel_rfl) ?_
 refine rnT ?_
 refine TW.cl rfl (ldecide_c (l:=ev1) (ps:= []) (st:=0) (op:= -1) (ht9.below c14) (se_step hE19 c14) (SL.nil _ _ _) ne1 (low_i64 (by decide)) dec_open) ?_
 rintro y w15 ⟨b15,rfl⟩
 have c15:=c14.step b15
 refine TW.build [1] _ [.int .i64 0,.int .i64 (-1)] rfl rfl rfl (Args.cons rfl ct Args.nil) (by kernel_rfl) ?_
 refine TW.eqlT rfl rfl rfl ct rfl ct (by kernel_rfl) ?_
 refine rnT ?_
 refine TW.cl rfl (ldecide_c (l:=ev2) (ps:= []) (st:=2) (op:= -1) (ht9.below c15) (se_step hE29 c15) (SL.nil _ _ _) ne2 (low_i64 (by decide)) dec_denied) ?_
 rintro y w16 ⟨b16,rfl⟩
 have c16:=c15.step b16
 have hB16:=hB9.next c16
 refine TW.build [0,1] _ [.int .i64 2,.int .i64 (-1)] rfl rfl rfl (Args.cons rfl ct (Args.cons rfl ct Args.nil)) (by kernel_rfl) ?_
 refine TW.eqlT rfl rfl rfl ct rfl ct (by kernel_rfl) ?_
 refine rnT ?_
 refine TW.pk [0,1,2,3,4,5,6,7,8,9,10] rfl ?_
 refine TW.ldS rfl (fun _ _ hv=>hB16.fld hv) ?_
 refine rnT ?_
 refine TW.build [2] _ [.string ⟨#[]⟩,.int .i64 0,.int .i64 1,.int .i64 0,.int .i64 0] rfl rfl rfl (Args.cons rfl ct Args.nil) (by kernel_rfl) ?_
 refine TW.build [0,2] _ (clV clm0) rfl rfl rfl (Args.cons rfl ct (Args.cons rfl ct Args.nil)) (by kernel_rfl) ?_
 refine TW.cl rfl (decide_c (ws:= []) (ks:= []) (ps:= []) (c:=clm0) (F:=fun _=>True) (ht9.below c16) (net_step hN9 c16) (sd_step hd9 c16) (se_step hE19 c16) (SL.nil _ _ _) (SL.nil _ _ _) (SL.nil _ _ _) ne1 ⟨low_i64 (x:=0) (by decide),low_i64 (x:=1) (by decide),low_i64 (x:=0) (by decide),low_i64 (x:=0) (by decide),low_i64 (x:=0) (by decide),low_i64 (x:=1) (by decide)⟩) ?_
 rintro y w17 ⟨b17,rfl⟩
 rw [dec_empty]
 have c17:=c16.step b17
 refine rnT ?_
 refine TW.newVar rfl zc42 rfl sz42 rfl rfl ?_
 rintro g18 w18 f18
 refine rnT ?_
 have c18:=c17.step f18.below
 refine TW.cl rfl (fit_c (sd_step hd9 c18) (se_step hE19 c18)) ?_
 rintro y w19 ⟨b19,tv,rfl⟩
 rw [dec_pos fitted1]
 have c19:=c18.step b19
 refine rnT ?_
 refine TW.cl rfl (worlds_c (most:=0) (sd_step hd9 c19) (se_step hE19 c19) (by decide)) ?_
 rintro y w20 ⟨b20,wv,rfl,hw20⟩
 rw [werr1]
 rw [worlds1] at hw20
 obtain ⟨WA,wc,rfl,_⟩:=hw20.form
 have c20:=c19.step b20
 have hB20:=hB9.next c20
 refine TW.v V.move rfl ⟨ct,trivial⟩ (fun _=>trivial) ?_
 refine TW.v V.extract rfl ⟨ct,trivial⟩ (fun _=>rfl) ?_
 refine TW.v V.extract rfl ⟨ct,trivial⟩ (fun _=>rfl) ?_
 refine TW.v V.assign rfl ⟨ct,trivial⟩ (fun _=>trivial) ?_
 refine TW.v V.assign rfl ⟨ct,trivial⟩ (fun _=>trivial) ?_
 refine TW.nil (KW.pick [0,1,2,3,4,5,6,7,8,9,10,12,14,15,16] [(0,_,_),(1,_,_),(2,_,_),(3,_,_),(4,_,_),(5,_,_),(6,_,_),(7,_,_),(8,_,_),(9,_,_),(10,_,_),(12,_,_),(14,_,_),(15,_,_),(16,_,_)] rfl (KW.then_ ?_))
 refine CW.seq (CW.region ?_)
 refine TW.v V.move rfl ⟨ct,trivial⟩ (fun _=>trivial) ?_
 refine TW.v V.move rfl ⟨ct,trivial⟩ (fun _=>trivial) ?_
 refine TW.known rfl rfl ?_
 refine TW.v V.move rfl ⟨ct,trivial⟩ (fun _=>trivial) ?_
 refine TW.pickAnd rfl rfl rfl ct rfl pT ?_
 refine TW.v V.move rfl ⟨ct,trivial⟩ (fun _=>trivial) ?_
 refine TW.known rfl rfl ?_
 refine TW.v V.move rfl ⟨ct,trivial⟩ (fun _=>trivial) ?_
 refine TW.pickAnd rfl rfl rfl ct rfl pT ?_
 refine TW.v V.move rfl ⟨ct,trivial⟩ (fun _=>trivial) ?_
 refine TW.known rfl rfl ?_
 refine TW.v V.move rfl ⟨ct,trivial⟩ (fun _=>trivial) ?_
 refine TW.pickAnd rfl rfl rfl ct rfl pT ?_
 refine TW.v V.move rfl ⟨ct,trivial⟩ (fun _=>trivial) ?_
 refine TW.known rfl rfl ?_
 refine TW.v V.move rfl ⟨ct,trivial⟩ (fun _=>trivial) ?_
 refine TW.pickAnd rfl rfl rfl ct rfl pT ?_
 refine TW.v V.move rfl ⟨ct,trivial⟩ (fun _=>trivial) ?_
 refine TW.known rfl rfl ?_
 refine TW.v V.move rfl ⟨ct,trivial⟩ (fun _=>trivial) ?_
 refine TW.known rfl rfl ?_
 refine rnT ?_
 refine TW.known rfl rfl ?_
 refine TW.ldS rfl (fun _ _ hv=>hB20.fld hv) ?_
 refine TW.known rfl rfl ?_
 refine TW.v V.move rfl ⟨ct,trivial⟩ (fun _=>trivial) ?_
 refine TW.known rfl rfl ?_
 refine TW.v V.move rfl ⟨ct,trivial⟩ (fun _=>trivial) ?_
 refine TW.known rfl rfl ?_
 refine rnT ?_
 refine TW.known rfl rfl ?_
 refine TW.cl rfl (holders_c (ht9.below c20) (net_step hN9 c20) (sd_step hd9 c20) (se_step hE19 c20) (sd_step hS9 c20) ne1) ?_
 rintro y w21 ⟨b21,h21⟩
 rw [h150] at h21
 have c21:=c20.step b21
 refine TW.known rfl rfl ?_
 refine TW.buildSlice 3 _ rfl rfl rfl eo32 (Args.cons rfl ct Args.nil) rfl rfl rfl rfl rfl ?_
 rintro g22 w22 f22
 refine TW.known rfl rfl ?_
 have c22:=c21.step f22.below
 refine TW.cl rfl (rints_c (h21.below f22.below) (lit_int [0] f22.blk rfl (by decide) (by decide))) ?_
 rintro y w23 ⟨b23,rfl⟩
 have c23:=c22.step b23
 have hB23:=hB9.next c23
 refine rnT ?_
 refine TW.known rfl rfl ?_
 refine TW.ldS rfl (fun _ _ hv=>hB23.fld hv) ?_
 refine TW.known rfl rfl ?_
 refine TW.v V.move rfl ⟨ct,trivial⟩ (fun _=>trivial) ?_
 refine TW.known rfl rfl ?_
 refine TW.v V.move rfl ⟨ct,trivial⟩ (fun _=>trivial) ?_
 refine TW.known rfl rfl ?_
 refine rnT ?_
 refine TW.known rfl rfl ?_
 refine TW.cl rfl (holders_c (ht9.below c23) (net_step hN9 c23) (sd_step hd9 c23) (se_step hE19 c23) (sd_step hS9 c23) ne1) ?_
 rintro y w24 ⟨b24,h24⟩
 rw [h160] at h24
 have c24:=c23.step b24
 refine TW.known rfl rfl ?_
 refine TW.buildSlice 3 _ rfl rfl rfl eo32 (Args.cons rfl ct (Args.cons rfl ct Args.nil)) rfl rfl rfl rfl rfl ?_
 rintro g25 w25 f25
 refine TW.known rfl rfl ?_
 have c25:=c24.step f25.below
 refine TW.cl rfl (rints_c (h24.below f25.below) (lit_int [0,1] f25.blk rfl (by decide) (by decide))) ?_
 rintro y w26 ⟨b26,rfl⟩
 have c26:=c25.step b26
 refine rnT ?_
 refine TW.known rfl rfl ?_
 refine TW.buildSlice 3 _ rfl rfl rfl eo32 (Args.cons rfl ct (Args.cons rfl ct Args.nil)) rfl rfl rfl rfl rfl ?_
 rintro g27 w27 f27
 refine TW.known rfl rfl ?_
 have c27:=c26.step f27.below
 refine TW.cl rfl (paper_c (t:=140) (by decide) (by decide)) ?_
 rintro y w28 ⟨b28',PA28,pc28,rfl,hp28⟩
 refine TW.known rfl rfl ?_
 refine TW.buildSlice 67 _ rfl rfl rfl eo33 (Args.cons rfl ct Args.nil) rfl rfl rfl rfl rfl ?_
 rintro g29 w29 f29
 refine TW.known rfl rfl ?_
 have hP29:=lit_pp (by decide) (by decide) f29.blk (hp28.step intT_now f29.below)
 have c29:=(c27.step b28').step f29.below
 refine TW.cl rfl (excused_c (lab:=bya 65) (lit_int [5,9] (f27.blk.next (b28'.step f29.below)) rfl (by decide) (by decide)) hP29) ?_
 rintro y w30 ⟨b30,rfl⟩
 rw [exc_early,dec_pos (p:=bya 65=bya 65∧(140:Int)≤140) ⟨rfl,by decide⟩]
 have c30:=c29.step b30
 refine rnT ?_
 refine TW.known rfl rfl ?_
 refine TW.buildSlice 3 _ rfl rfl rfl eo32 (Args.cons rfl ct (Args.cons rfl ct Args.nil)) rfl rfl rfl rfl rfl ?_
 rintro g31 w31 f31
 refine TW.known rfl rfl ?_
 have c31:=c30.step f31.below
 refine TW.cl rfl (paper_c (t:=140) (by decide) (by decide)) ?_
 rintro y w32 ⟨b32,PA32,pc32,rfl,hp32⟩
 refine TW.known rfl rfl ?_
 refine TW.buildSlice 67 _ rfl rfl rfl eo33 (Args.cons rfl ct Args.nil) rfl rfl rfl rfl rfl ?_
 rintro g33 w33 f33
 refine TW.known rfl rfl ?_
 have hP33:=lit_pp (by decide) (by decide) f33.blk (hp32.step intT_now f33.below)
 have c33:=(c31.step b32).step f33.below
 refine TW.cl rfl (excused_c (lab:=bya 66) (lit_int [5,9] (f31.blk.next (b32.step f33.below)) rfl (by decide) (by decide)) hP33) ?_
 rintro y w34 ⟨b34,rfl⟩
 rw [exc_early,dec_neg (p:=bya 65=bya 66∧(140:Int)≤140) (fun h=>bya_ne (by decide) h.1)]
 have c34:=c33.step b34
 refine TW.known rfl rfl ?_
 refine TW.v V.not rfl ⟨ct,trivial⟩ (fun _=>trivial) ?_
 refine TW.pickAnd rfl rfl rfl ct rfl pT ?_
 refine TW.v V.move rfl ⟨ct,trivial⟩ (fun _=>trivial) ?_
 refine TW.known rfl rfl ?_
 refine TW.v V.move rfl ⟨ct,trivial⟩ (fun _=>trivial) ?_
 refine TW.pickAnd rfl rfl rfl ct rfl pT ?_
 refine TW.v V.move rfl ⟨ct,trivial⟩ (fun _=>trivial) ?_
 refine TW.known rfl rfl ?_
 refine TW.v V.move rfl ⟨ct,trivial⟩ (fun _=>trivial) ?_
 refine TW.known rfl rfl ?_
 refine TW.v V.eql rfl ⟨ct,ct,trivial⟩ (fun _=>trivial) ?_
 refine TW.pickAnd rfl rfl rfl ct rfl pT ?_
 refine TW.v V.move rfl ⟨ct,trivial⟩ (fun _=>trivial) ?_
 refine TW.known rfl rfl ?_
 refine TW.v V.move rfl ⟨ct,trivial⟩ (fun _=>trivial) ?_
 refine TW.known rfl rfl ?_
 refine TW.v V.lenSlice rfl ⟨ct,trivial⟩ (fun _=>trivial) ?_
 refine TW.known rfl rfl ?_
 refine TW.v V.eql rfl ⟨ct,ct,trivial⟩ (fun _=>trivial) ?_
 refine TW.pickAnd rfl rfl rfl ct rfl pT ?_
 refine TW.v V.move rfl ⟨ct,trivial⟩ (fun _=>trivial) ?_
 refine TW.known rfl rfl ?_
 refine TW.v V.move rfl ⟨ct,trivial⟩ (fun _=>trivial) ?_
 refine TW.known rfl rfl ?_
 refine TW.v V.move rfl ⟨ct,trivial⟩ (fun _=>trivial) ?_
 refine TW.known rfl rfl ?_
 refine rnT ?_
 refine TW.known rfl rfl ?_
 refine TW.cl rfl (reach_c (sd_step hd9 c34) (se_step hE19 c34) (sd_step hS9 c34) ne1 ⟨low_i64 (x:=1) (by decide),low_i64 (x:=100) (by decide),low_i64 (x:=160) (by decide)⟩) ?_
 rintro y w35 ⟨b35,rfl⟩
 rw [r160]
 refine rnT ?_
 refine rt1 rfl ⟨b9.step (c34.step b35),rfl⟩
structure FewK (ks:List Int) (ps:List Pp):Prop where
 k:ks.length≤10
 p:ps.length≤12
 each: ∀p∈ps,p.path.length≤30∧p.label.size≤40∧p.doc.sl.size≤40
theorem rfew35_c {kv psv:Value} {ks:List Int} {ps:List Pp} (hk:SL intT F w kv ks) (hps:SPp w psv ps):Gives Tryz.prog 12 #[kv,psv] w fun u w'=>Below w.heap.size w w'∧u= .bool (dec (FewK ks ps)):=by
 obtain ⟨KA,kc,rfl,_⟩:=hk.form
 obtain ⟨A,cap,rfl,_⟩:=hps.form
 have hmk:=hk.len.2.2
 have hmax:=hps.len.2.2
 refine gv (f:=12) ?_
 refine rnT ?_
 refine CW.lp [0,1] (fun i:Nat=> [(5,none,.int .i64 (i:Int))])
  (fun i W=>i≤ps.length∧Below w.heap.size w W∧ ∀p∈ps.take i,p.path.length≤30∧p.label.size≤40∧p.doc.sl.size≤40) (fun i=>ps.length-i) 0 ⟨Nat.zero_le _,Below.refl _ _,by simp⟩ ?_
 rintro i W ⟨hi,hB,hall⟩
 refine rnT ?_
 refine CW.condP rfl (fun hlt=> ?_) (fun hge=> ?_)
 ·obtain ⟨p,hp,hpm⟩:=getx (l:=ps) (k:=i) (by omega)
  have hW:=spp_step hps hB
  obtain ⟨ad,rfl⟩:=hW.addr (by omega)
  obtain ⟨pv,hcells,hd,hix,hpath⟩:=SPp.get hW hp
  obtain ⟨PA,pc,rfl,_⟩:=hpath.form
  refine rnT ?_
  refine TW.ld rfl (hcells 10 _ rfl) ?_
  refine rnT ?_
  refine TW.ld rfl (hcells 8 _ rfl) ?_
  refine rnT ?_
  refine TW.ld rfl (hcells 0 _ rfl) ?_
  refine rnT ?_
  refine CW.pk [0,1,5,38] rfl ?_
  refine CW.cond rfl (fun hbad=> ?_) (fun hgood=> ?_)
  ·refine rnT ?_
   refine rt1 rfl ⟨hB,?_⟩
   rw [dec_neg fun h=> ?_]
   have:=h.each p hpm
   simp at hbad
   omega
  ·refine rnT ?_
   refine KW.rd (i+1) ⟨by omega,hB,fun q hq=> ?_⟩
   rw [List.take_add_one,hp] at hq
   rcases List.mem_append.1 hq with hq|hq
   ·exact hall q hq
   ·simp at hq
    subst hq
    simp at hgood
    omega
 ·refine rnT ?_
  refine rt1 rfl ⟨hB,?_⟩
  rw [List.take_of_length_le (by omega)] at hall
  by_cases h:FewK ks ps
  ·rw [dec_pos h]
   have:=h.k
   have:=h.p
   simp
   omega
  ·rw [dec_neg h]
   have: ¬(ks.length≤10∧ps.length≤12):=fun q=>h ⟨q.1,q.2,hall⟩
   simp
   omega
theorem rwithin35_c {x n:Int}:Gives Tryz.prog 97 #[.int .i64 x,.int .i64 n] w fun u w'=>Below w.heap.size w w'∧u= .bool (decide (0≤x∧x<n)):=by
 refine gv (f:=97) ?_
 refine rnT ?_
 refine rt1 rfl ⟨Below.refl _ _,by simp⟩
theorem rclaim_c (hN:NetAt w v N):Gives Tryz.prog 45 #[.agg v.cells.toArray,.agg (clV c).toArray] w fun u w'=>Below w.heap.size w w'∧u= .bool (dec (ClOK N c)):=by
 have hform:=NetIn.form hN
 obtain ⟨vc,vn,vo,vf,vl,vk⟩:=v
 obtain ⟨⟨A1,c1,e1⟩,⟨A2,c2,e2⟩,⟨A3,c3,e3⟩,⟨A4,c4,e4⟩,⟨A5,c5,e5⟩,⟨A6,c6,e6⟩⟩:=id hform
 dsimp only at e1 e2 e3 e4 e5 e6
 subst e1 e2 e3 e4 e5 e6
 have hmax:=hN.f.len.2.2
 refine gv (f:=45) ?_
 refine rnT ?_
 refine TW.box rfl rfl rfl rfl ?_
 rintro g2 w1 f1
 refine TW.box rfl rfl rfl rfl ?_
 rintro g3 w2 f2
 refine rnT ?_
 have b2:=f1.below.step f2.below
 have hN2:=f1.blk.next f2.below
 have hC2:=f2.blk
 refine TW.ld rfl (hC2.fld (j:=1) rfl) ?_
 refine rnT ?_
 refine TW.ld rfl (hN2.fld (j:=3) rfl) ?_
 refine rnT ?_
 refine TW.cl rfl (rwithin35_c) ?_
 rintro y w3 ⟨b3,rfl⟩
 refine rnT ?_
 refine TW.ld rfl ((hC2.next b3).fld (j:=2) rfl) ?_
 refine rnT ?_
 refine TW.ld rfl ((hN2.next b3).fld (j:=3) rfl) ?_
 refine rnT ?_
 refine TW.callF (cap:= []) rfl rfl en97 rfl ct (Args.cons rfl id (Args.cons rfl id Args.nil)) (fun _=>rwithin35_c) ?_
 rintro w4 b4
 refine rnT ?_
 have hC4:=hC2.next (b3.step b4)
 refine TW.ld rfl (hC4.fld (j:=4) rfl) ?_
 refine rnT ?_
 refine TW.ld rfl (hC4.fld (j:=4) rfl) ?_
 refine rnT ?_
 refine TW.ld rfl (hC4.fld (j:=5) rfl) ?_
 refine rnT ?_
 refine TW.ld rfl (hC4.fld (j:=5) rfl) ?_
 refine rnT ?_
 refine TW.ld rfl (hC4.fld (j:=6) rfl) ?_
 refine rnT ?_
 refine TW.ld rfl (hC4.fld (j:=6) rfl) ?_
 refine rnT ?_
 refine rt1 rfl ⟨b2.step (b3.step b4),?_⟩
 by_cases h:ClOK N c
 ·rw [dec_pos h]
  obtain ⟨h1,h2,h3,h4,h5,h6,h7,h8,h9⟩:=h
  simp
  omega
 ·rw [dec_neg h,Value.bool.injEq,Bool.eq_false_iff]
  intro hq
  simp only [Bool.and_eq_true,decide_eq_true_eq] at hq
  exact h ⟨by omega,by omega,by omega,by omega,by omega,by omega,by omega,by omega,by omega⟩
structure RightP (N:Net) (d:Dist) (l:List Ev) (ws:List (List Int)) (c:Cl):Prop where
 light:LightP N d l ws
 sound:SoundOK keys11 N
 fit:FitW d l ws.length
 same:d.length=N.offs.length
 claim:ClOK N c
 lab:c.label.size≤40
theorem LightP.needs {N:Net} {d:Dist} {l:List Ev} {ws:List (List Int)} (h:LightP N d l ws): ∀e∈l,e.needs.length≤1000000:=fun e he=>by have:=h.few.nd e he; omega
theorem LightP.len (h:LightP N d l ws):l.length≤8:=by have:=h.few.fd.l1; omega
theorem RightP.dec (h:RightP N d l ws c):DecOK N d l ws.length c:=⟨h.sound,h.fit,h.same,h.claim⟩
theorem right_c {dv lv wv:Value} (hN:NetAt w v N) (hd:SD w dv d) (hl:SE w lv l) (hS:SD w wv ws) :
  Gives Tryz.prog 20 #[.agg v.cells.toArray,dv,lv,wv,.agg (clV c).toArray] w fun x w'=>Below w.heap.size w w'∧x= .bool (dec (RightP N d l ws c)):=by
 have hform:=NetIn.form hN
 obtain ⟨A,cap,rfl,hcap⟩:=hd.form
 obtain ⟨X,xcap,rfl,_⟩:=hS.form
 have hv: ∃A4 c4,v.f= .slice A4 N.offs.length c4:=hform.f
 obtain ⟨vc,vn,vo,vf,vl,vk⟩:=v
 obtain ⟨A4,c4,e4⟩:=hv
 dsimp only at e4
 subst e4
 refine gv (f:=20) ?_
 refine rnT ?_
 refine TW.box rfl rfl rfl rfl ?_
 rintro g5 w0 f0
 refine TW.box rfl rfl rfl rfl ?_
 rintro g9 w1 f1
 refine rnT ?_
 have hB1:=f0.blk.next f1.below
 have hC1:=f1.blk
 have b1:=f0.below.step f1.below
 refine TW.ldS rfl (fun _ _ hv=>hB1.fld hv) ?_
 refine rnT ?_
 refine TW.cl rfl (rlight_c (net_step hN b1) (sd_step hd b1) (se_step hl b1) (sd_step hS b1)) ?_
 rintro y w2 ⟨c2,rfl⟩
 have b2:=b1.step c2
 have hB2:=hB1.next c2
 refine rnT ?_
 refine TW.ldS rfl (fun _ _ hv=>hB2.fld hv) ?_
 refine TW.callF (cap:= []) rfl rfl en43 rfl ct (Args.cons rfl id Args.nil) (fun hG=>rsound_c (net_step hN b2) (FewR.few (LightP.net (dec_iff.1 hG)))) ?_
 rintro w3 c3
 refine rnT ?_
 have b3:=b2.step c3
 refine TW.callF (cap:= []) rfl rfl en44 rfl ct (Args.cons rfl id (Args.cons rfl id (Args.cons rfl id Args.nil))) (fun _=>rfitting_c (sd_step hd b3) (se_step hl b3)) ?_
 rintro w4 c4'
 refine rnT ?_
 have b4:=b3.step c4'
 have hB4:=(hB2.next c3).next c4'
 have hC4:=hC1.next (c2.step (c3.step c4'))
 refine TW.ld rfl (hB4.fld (j:=3) rfl) ?_
 refine rnT ?_
 refine TW.ldS rfl (fun _ _ hv=>hB4.fld hv) ?_
 refine TW.ldS rfl (fun _ _ hv=>hC4.fld hv) ?_
 refine TW.callF (cap:= []) rfl rfl en45 rfl ct (Args.cons rfl id (Args.cons rfl id Args.nil)) (fun _=>rclaim_c (c:=c) (net_step hN b4)) ?_
 rintro w5 c5
 refine rnT ?_
 have hC5:=hC4.next c5
 refine TW.ld rfl (hC5.fld (j:=0) rfl) ?_
 refine rnT ?_
 refine rt1 rfl ⟨b4.step c5,?_⟩
 congr 1
 by_cases hR:RightP N d l ws c
 ·rw [dec_pos hR,dec_pos hR.light,dec_pos hR.sound,dec_pos hR.fit,dec_pos hR.claim]
  have:=hR.same
  have:=hR.lab
  simp
  omega
 ·rw [dec_neg hR,Bool.eq_false_iff]
  intro hq
  simp only [Bool.and_eq_true,decide_eq_true_eq] at hq
  obtain ⟨⟨⟨⟨⟨h1,h2⟩,h3⟩,h4⟩,h5⟩,h6⟩:=hq
  exact hR ⟨dec_iff.1 h1,dec_iff.1 h2,dec_iff.1 h3,by omega,dec_iff.1 h5,by omega⟩
theorem dec_of {ks:List Int} {ps:List Pp} (h:DecOK N d l ws.length c) (hp:ps.length≤100) (hw:ws≠ []):decS N d l ws ks ps c=(rulS N d l ws ks ps c,0):=by
 unfold decS
 rw [dec_pos h,if_neg (by simp),if_neg (by omega),if_neg hw]
theorem evs_more {w0:World} {v:Value} {qs:List Ev} {ps1 ps2:List (List Value×Ev)} {n m:Nat} (hb:Below w0.heap.size w0 w) (r1: ∀p∈ps1,evT.rep (fun k=>k<w0.heap.size) w0 p.1 p.2) (p1:ps1.map (·.2)=l) (r2: ∀p∈ps2,evT.rep (fun k=>k<w0.heap.size) w0 p.1 p.2) (p2:ps2.map (·.2)=qs) (hn:n=l.length) (hm:m=qs.length)
 (h:OwnS w 60 4 v (0+n+m) ([]++ps1.flatMap (·.1)++ps2.flatMap (·.1))∧ ∀g,v.ownBlock=some g→w0.heap.size≤g) (hs:n+m≤9223372036854775807):SE w v (l++qs):=by
 have e1:ps1.length=n:=by rw [hn,←p1]; simp
 have e2:ps2.length=m:=by rw [hm,←p2]; simp
 have h1:=OwnS.toSLn (T:=evT) (by decide) (n:=0+n+m) (ps:=ps1++ps2) hb (fun p hp=>(List.mem_append.1 hp).elim (r1 p) (r2 p)) (by rw [List.flatMap_append]; exact h.1) (by simp; omega) (by simp; omega)
 rw [List.map_append,p1,p2] at h1
 exact h1.now evT_now
theorem more_rul {e:Ev} (hf:FitW d l ws.length):((rulS N d l ws [] [] c).1=1→(rulS N d (l++ [e]) ws [] [] c).1=1)∧((rulS N d l ws [] [] c).1=2→(rulS N d (l++ [e]) ws [] [] c).1≠0):=by
 refine ⟨fun h=> ?_,fun h h2=> ?_⟩
 ·rcases rul_st.1 h with ⟨_,hr⟩|⟨hx,_⟩|⟨hx,_⟩
  ·refine rul_st.2 (.inl ⟨rfl,?_⟩)
   cases hq:reachS d (l++ [e]) ws c.to c.acc c.due with
   | false=>rfl
   | true=>rw [reach_more hf hq] at hr; cases hr
  ·exact absurd hx (by decide)
  ·exact absurd hx (by decide)
 ·rcases rul_st.1 h with ⟨hx,_⟩|⟨_,_,hs⟩|⟨hx,_⟩
  ·exact absurd hx (by decide)
  ·rcases rul_st.1 h2 with ⟨hx,_⟩|⟨hx,_⟩|⟨_,_,hs2⟩
   ·exact absurd hx (by decide)
   ·exact absurd hx (by decide)
   ·rw [seen_more hs] at hs2
    cases hs2
  ·exact absurd hx (by decide)
theorem evidence_law {dv lv wv nv:Value} {e:Ev} (hN:NetAt w v N) (hd:SD w dv d) (hl:SE w lv l) (hS:SD w wv ws) (hcI:ClI c) (i1:I64 e.office) (i2:I64 e.low) (i3:I64 e.high) (hnd:SL intT F w nv e.needs) (hbig:l.length*48≤140737488351232) (ht:Tabs w) :
  Gives Tryz.prog 6 #[.agg v.cells.toArray,dv,lv,wv,.agg (clV c).toArray,.agg #[.int .i64 e.office,.int .i64 e.low,.int .i64 e.high,nv]] w fun u w'=>Below w.heap.size w w'∧u= .bool true:=by
 obtain ⟨A,cap,rfl,_⟩:=hl.form
 obtain ⟨C,ncap,rfl,_⟩:=hnd.form
 obtain ⟨X,xcap,rfl,hxc⟩:=hS.form
 have hnd:=hnd.now intT_now
 refine gv (f:=6) ?_
 refine rnT ?_
 refine TW.box rfl rfl rfl rfl ?_
 rintro g6 w1 f1
 refine TW.box rfl rfl rfl rfl ?_
 rintro g10 wq fq
 refine TW.box rfl rfl rfl rfl ?_
 rintro g11 w2 f2
 refine rnT ?_
 have bq:=f1.below.step fq.below
 have b2:=bq.step f2.below
 have hB2:=f1.blk.next (fq.below.step f2.below)
 have hC2:=fq.blk.next f2.below
 have hE2:=f2.blk
 refine TW.cl rfl (head_c (ht.below b2)) ?_
 rintro y w3 ⟨c3,rfl⟩
 have b3:=b2.step c3
 have hB3:=hB2.next c3
 have hC3:=hC2.next c3
 have hE3:=hE2.next c3
 have hl3:=se_step hl b3
 obtain ⟨ps1,p1,r1,n1,a1⟩:=hl3.flat (T:=evT) (by decide)
 have hn3:=si_step hnd b3
 refine rnT ?_
 refine CW.drawO mixed (by kernel_rfl) ?_
 refine OW.buildSlice0 60 rfl rfl eo31 ?_
 refine rnD ?_
 refine OW.append (m:=l.length) (A:=A) (ps1.flatMap (·.1)) rfl rfl go31 rfl (by kernel_rfl) rfl ct a1 n1 (one_flat evT_one r1) (by omega) (by omega) ?_
 refine DW.ldS rfl (fun _ _ hv=>hE3.fld hv) ?_
 refine OW.buildSlice 60 _ rfl rfl rfl eo31 (DArgs.cons rfl ct DArgs.nil) rfl rfl rfl rfl rfl ?_
 refine OW.appendR [.int .i64 e.office,.int .i64 e.low,.int .i64 e.high,.slice C e.needs.length ncap] rfl rfl go31 rfl (by kernel_rfl) rfl ct (fun u hu=>by
  simp at hu
  rcases hu with rfl|rfl|rfl|rfl<;>rfl) (by omega) (by omega) rfl ?_
 refine OW.assign rfl rfl rfl ct (rowE_strong _ _ _ _ _) (by kernel_rfl) ?_
 refine DW.nil (DW.finX [0,1,2,3,4,5,6,10,11,12,13] [(0,_,_),(1,_,_),(2,_,_),(3,_,_),(4,_,_),(5,_,_),(6,_,_),(10,_,_),(11,_,_),(12,_,_),(13,_,_)] rfl [14] rfl fun vs w4 c4 hs4=>KW.then_ ?_)
 obtain ⟨v14,rfl,h14⟩:=Sats.one hs4
 refine rnT ?_
 have hm4:SE w4 v14 (l++ [e]):=evs_more c4 r1 p1 (ps2:= [([.int .i64 e.office,.int .i64 e.low,.int .i64 e.high,.slice C e.needs.length ncap],e)]) (fun p hp=>by
  rw [List.mem_singleton] at hp
  subst hp
  exact ⟨_,rfl,i1,i2,i3,hn3⟩) rfl rfl rfl h14 (by simp; omega)
 have b4:=b3.step c4
 have hB4:=hB3.next c4
 have hC4:=hC3.next c4
 refine TW.ldS rfl (fun _ _ hv=>hB4.fld hv) ?_
 refine rnT ?_
 refine TW.ldS rfl (fun _ _ hv=>hC4.fld hv) ?_
 refine TW.cl rfl (right_c (c:=c) (net_step hN b4) (sd_step hd b4) hm4 (sd_step hS b4)) ?_
 rintro y w5 ⟨c5,rfl⟩
 have b5:=b4.step c5
 refine rnT ?_
 refine TW.ldS rfl (fun _ _ hv=>(hB4.next c5).fld hv) ?_
 refine rnT ?_
 refine TW.ldS rfl (fun _ _ hv=>(hC4.next c5).fld hv) ?_
 refine TW.callF (cap:= []) rfl rfl en20 rfl ct (Args.cons rfl id (Args.cons rfl id (Args.cons rfl id (Args.cons rfl id (Args.cons rfl id Args.nil))))) (fun _=>right_c (c:=c) (net_step hN b5) (sd_step hd b5) (se_step hl b5) (sd_step hS b5)) ?_
 rintro w6 c6
 refine rnT ?_
 refine CW.pk [0,1,2,3,4,5,6,10,11,12,13,14,46] rfl ?_
 have c46:=c5.step c6
 have b6:=b5.step c6
 refine CW.cond rfl (fun hbad=> ?_) (fun hgood=> ?_)
 ·refine rnT ?_
  refine rt1 rfl ⟨b6,rfl⟩
 have hg:RightP N d (l++ [e]) ws c∧RightP N d l ws c∧ws≠ []:=by
  cases h1:dec (RightP N d (l++ [e]) ws c) with
  | false=>rw [h1] at hgood; simp at hgood
  | true =>
   cases h2:dec (RightP N d l ws c) with
   | false=>rw [h1,h2] at hgood; simp at hgood
   | true =>
    refine ⟨dec_iff.1 h1,dec_iff.1 h2,fun e=> ?_⟩
    rw [h1,h2,e] at hgood
    simp at hgood
 obtain ⟨hRm,hR,hne0⟩:=hg
 have hne:=hR.light.needs
 have hnem:=hRm.light.needs
 have hB6:=hB4.next c46
 have hC6:=hC4.next c46
 refine rnT ?_
 refine TW.ldS rfl (fun _ _ hv=>hB6.fld hv) ?_
 refine rnT ?_
 refine TW.ldS rfl (fun _ _ hv=>hC6.fld hv) ?_
 refine TW.cl rfl (decide_c (ks:= []) (ps:= []) (F:=fun _=>True) (ht.below b6) (net_step hN b6) (sd_step hd b6) (se_step hl b6) (sd_step hS b6) (SL.nil _ _ _) (SL.nil _ _ _) hne hcI) ?_
 rintro y w8 ⟨c8,rfl⟩
 rw [dec_of hR.dec (by simp) hne0]
 have b8:=b6.step c8
 refine rnT ?_
 refine TW.newVar rfl zc42 rfl sz42 rfl rfl ?_
 rintro g15 w9 f9
 refine rnT ?_
 refine TW.pk [0,1,2,3,4,5,6,10,11,12,13,14,15,16] rfl ?_
 have c69:=c8.step f9.below
 have b9:=b8.step f9.below
 have hm9:=se_step hm4 (c46.step c69)
 refine TW.ldS rfl (fun _ _ hv=>(hB6.next c69).fld hv) ?_
 refine rnT ?_
 refine TW.ldS rfl (fun _ _ hv=>(hC6.next c69).fld hv) ?_
 refine TW.cl rfl (decide_c (ks:= []) (ps:= []) (F:=fun _=>True) (ht.below b9) (net_step hN b9) (sd_step hd b9) hm9 (sd_step hS b9) (SL.nil _ _ _) (SL.nil _ _ _) hnem hcI) ?_
 rintro y w10 ⟨c10,rfl⟩
 rw [dec_of hRm.dec (by simp) hne0]
 have b10:=b9.step c10
 refine rnT ?_
 refine TW.newVar rfl zc42 rfl sz42 rfl rfl ?_
 rintro g17 w11 f11
 refine rnT ?_
 have b11:=b10.step f11.below
 have hA:=f9.blk.next (c10.step f11.below)
 have hZ:=f11.blk
 refine TW.ld rfl (hA.fld (j:=0) rfl) ?_
 refine rnT ?_
 refine TW.ld rfl (hZ.fld (j:=0) rfl) ?_
 refine rnT ?_
 refine TW.ld rfl (hA.fld (j:=0) rfl) ?_
 refine rnT ?_
 refine TW.ld rfl (hZ.fld (j:=0) rfl) ?_
 refine rnT ?_
 refine rt1 rfl ⟨b11,?_⟩
 have hmr:=more_rul (N:=N) (c:=c) (e:=e) hR.fit
 obtain ⟨m1,m2⟩:=hmr
 cases hsa:decide ((rulS N d l ws [] [] c).1=1)<;>cases hsb:decide ((rulS N d l ws [] [] c).1=2)<;>simp_all
end Go.Proofs.YtobaafdejnimkaaGreatDoor
namespace Go.PF
open Go.RowKit Go.ChangeShapes Go.WideShapes Go.ChangeAt
section
variable {H:Type} {enc:TypeId×Value→H} {P:Program}
def Opens {α:Type} (P:Program) (t:TypeId) (T:Ty α):Prop :=
 ∀ {H:Type} (enc:TypeId×Value→H) (w:World) (base:Nat) (spare:Nat→Bool) (held:Bool) (fuel:Nat) (cs:List Value) (x:DataW H×List MemPlace),DataW.trod enc P w base spare held fuel t cs=some x→ ∃a,T.rep (fun _=>True) w cs a
theorem Opens.slice {α:Type} {t e:TypeId} {T:Ty α} (ht:P.underlying t=some (.slice e)) (hn:P.cellsOf e=T.n) (h:Opens P e T):Opens P t (sliceT T):=by
 intro H enc w base spare held fuel cs x hx
 rcases Go.Deep.open_slice ht hx with ⟨rfl,_⟩|⟨a,len,cap,m,n,D,Pl,rfl,_,hl,hm,hmm,_,hi⟩
 ·exact ⟨[],_,rfl,SL.nil _ _ _⟩
 ·have hlm:len≤m:=by rw [hmm]; split<;>omega
  have hex: ∀i,i<len→ ∃y cs',T.rep (fun _=>True) w cs' y∧ ∀j u,cs'[j]?=some u→w.cell? ((a.add (i*T.n)).add j)=some u:=by
   intro i hil
   obtain ⟨cs',hc,htr⟩:=hi i (by omega)
   obtain ⟨y,hy⟩:=h enc w base spare held n cs' _ htr
   rw [hn] at hc
   obtain ⟨_,hcl,hat⟩:=World.cells?_some hc
   refine ⟨y,cs',hy,fun j u hj=> ?_⟩
   have hjl:j<T.n:=by rw [←hcl]; exact (List.getElem?_eq_some_iff.1 hj).1
   rw [hat j hjl,hj]
  let L:List α:=(List.range len).attach.map fun i=>Classical.choose (hex i.1 (List.mem_range.1 i.2))
  have hL:L.length=len:=by simp [L]
  refine ⟨L,_,rfl,some a,cap,by rw [hL],by omega,by rw [hL]; have:maxLen=9223372036854775807:=rfl; omega,?_⟩
  intro i y hy
  have hil:i<len:=by rw [←hL]; exact (List.getElem?_eq_some_iff.1 hy).1
  have e:y=Classical.choose (hex i hil):=by
   simp [L,hil] at hy
   exact hy.symm
  obtain ⟨cs',h1,h2⟩:=Classical.choose_spec (hex i hil)
  rw [←e] at h1
  exact ⟨a,cs',rfl,trivial,h2,h1⟩
theorem Opens.arg {α:Type} {t e:TypeId} {T:Ty α} {W:World} {b0:Nat} {v:Value} {d:DataW H} {ps:List MemPlace} (h:Opens P t (sliceT T)) (ht:P.underlying t=some (.slice e)) (hval:Value.okWide P W .any b0 t v) (hd:DataW.Trod enc P W 0 (fun _=>true) true t v d ps) :
  ∃ l,SL T (fun _=>True) W v l:=by
 obtain ⟨fuel,hf⟩:=hd
 obtain ⟨l,v',hv',hl⟩:=h enc W _ _ _ _ _ _ hf
 obtain ⟨a,len,cap,rfl⟩:=okWide_slice ht hval
 simp [Value.cells] at hv'
 subst hv'
 exact ⟨l,hl⟩
theorem Opens.argN {α:Type} {t e:TypeId} {T:Ty α} {W:World} {b0:Nat} {v:Value} {d:DataW H} {ps:List MemPlace} (h:Opens P t (sliceT T)) (ht:P.underlying t=some (.slice e)) (hval:Value.okWide P W .any b0 t v) (hd:DataW.Trod enc P W 0 (fun _=>true) true t v d ps) :
  ∃ l,SL T (fun _=>True) W v l∧(l.length=0∨ ∃elems spare,d= .slice elems spare∧elems.length=l.length):=by
 obtain ⟨l,hl⟩:=h.arg ht hval hd
 refine ⟨l,hl,?_⟩
 obtain ⟨fuel,hf⟩:=hd
 obtain ⟨A,cap,rfl,_⟩:=hl
 rcases Go.Deep.open_slice ht hf with ⟨hc,_⟩|⟨a,len,cap',m,n,D,Pl,hc,_,_,_,_,hx,_⟩
 ·simp [Value.cells] at hc
  exact .inl (by simp [hc.2.1])
 ·simp [Value.cells] at hc
  simp only [Prod.mk.injEq] at hx
  exact .inr ⟨_,_,hx.1,by simp [hc.2.1]⟩
theorem sized_len {ts:List TypeId} {ds:List (DataW H)} (h:(DataW.weightsEach P ts ds).all (· ≤reachBytes)=true) {j:Nat} {t e:TypeId} {n k:Nat} (ht:ts[j]?=some t) (hu:P.underlying t=some (.slice e)) (hk:P.bytesOf e=k)
  (hn:n=0∨ ∃elems spare,ds[j]?=some (.slice elems spare)∧elems.length=n):n*k≤140737488351232:=by
 rcases hn with rfl|⟨elems,spare,h1,rfl⟩
 ·simp
 ·have:=sized_slice h ht h1 hu
  rw [hk,show reachBytes=140737488351232 from rfl,Nat.add_mul] at this
  omega
theorem Opens.argS {α:Type} {t:TypeId} {fs:Array Field} {T:Ty α} {W:World} {b0:Nat} {v:Value} {d:DataW H} {ps:List MemPlace} (h:Opens P t T) (ht:P.underlying t=some (.struct fs)) (hval:Value.okWide P W .any b0 t v) (hd:DataW.Trod enc P W 0 (fun _=>true) true t v d ps) :
  ∃ a cs,v= .agg cs.toArray∧T.rep (fun _=>True) W cs a:=by
 obtain ⟨fuel,hf⟩:=hd
 obtain ⟨a,ha⟩:=h enc W _ _ _ _ _ _ hf
 obtain ⟨cs,rfl,_⟩:=okWide_struct ht hval
 exact ⟨a,cs.toList,by simp,by simpa [Value.cells] using ha⟩
theorem stays_all (hl:laidOutB P=true) {W W':World} {sp:Nat→Bool}: ∀(ts:List TypeId) (vs:List Value) (ds:List (DataW H)) (ps:List MemPlace),(ts.all fun t=>P.readableRec t&&Nat.blt t P.types.size)=true→DataW.TrodAll enc P W 0 (fun _=>true) true ts vs ds ps →
  (∀p∈ps,W.sameAt W' p)→(∀p∈ps,sp p.block=true)→DataW.TrodAll enc P W' 0 sp true ts vs ds ps
 | [],[],[],ps,_,h,_,_=>h
 | t::ts,v::vs,d::ds,ps,ht,h,h1,h2=>by
  obtain ⟨p,q,hd,hr,rfl⟩:=h
  simp only [List.all_cons,Bool.and_eq_true] at ht
  refine ⟨p,q,WideElems.Trod_stays hl ht.1.1 (blt_iff.1 ht.1.2) hd (fun x hx=>h1 x (List.mem_append.2 (.inl hx))) (fun x hx=>h2 x (List.mem_append.2 (.inl hx))),?_,rfl⟩
  exact stays_all hl ts vs ds q ht.2 hr (fun x hx=>h1 x (List.mem_append.2 (.inr hx))) (fun x hx=>h2 x (List.mem_append.2 (.inr hx)))
 | [],[],_::_,_,_,h,_,_=>h.elim
 | [],_::_,_,_,_,h,_,_=>h.elim
 | _::_,[],_,_,_,h,_,_=>h.elim
 | _::_,_::_,[],_,_,h,_,_=>h.elim
theorem law_post {f:Func} {s:ChangeSpec} {apart fresh handsOn:Bool} {W W':World} {args:Array Value} {ds gs:List (DataW H)} {before:List MemPlace} {tb:TypeId} (hl:laidOutB P=true) (hW:DataW.Whole enc P f.params.toList s.vars apart W args.toList ds gs before) (hvars:s.vars= [])
  (hpar:(f.params.toList.all fun t=>P.readableRec t&&Nat.blt t P.types.size)=true) (hrt:f.resultTypes= #[tb]) (htb:P.underlying tb=some .bool) (hsr:(s.fn H (ds++gs)).results= [.lit (.bool true)]) (hsa:(s.fn H (ds++gs)).args=ds) (hsv:(s.fn H (ds++gs)).vars= [])
  (hb:Below W.heap.size W W'):s.post enc P f apart fresh handsOn false W args (.bool true) W':=by
 have hlt: ∀p∈before,p.block<W.heap.size:=fun p hp=>hW.lt p hp
 obtain ⟨p,q,hA,hV,hpq,hz,hn⟩:=id hW
 rw [hvars] at hV
 have hq:q= []:=by
  cases gs with
  | nil=>exact hV
  | cons g gs=>exact hV.elim
 subst hq
 rw [List.append_nil] at hpq
 subst hpq
 refine ⟨ds,gs,before,[],before,[],hW,?_,?_,?_,World.keptBut_mono (fun x hx=>⟨hx,.inr (.inl hx)⟩) (hb.frame (· ∈before)),fun h=>by cases h⟩
 ·rw [hsr,hrt]
  exact trodAll_mk1 ⟨1,by simp [DataW.trod,Value.cells,htb]⟩
 ·rw [hsa]
  exact stays_all hl _ _ _ _ hpar hA (fun x hx=>hb.same (hlt x hx)) (fun x hx=>by simpa using hlt x hx)
 ·rw [hsv,hvars]; rfl
theorem law_calls {f:Func} {k:FuncId} {s:ChangeSpec} {apart fresh handsOn:Bool} {W:World} {args:Array Value} {ds gs:List (DataW H)} {before:List MemPlace} {tb:TypeId} (hl:laidOutB P=true) (hW:DataW.Whole enc P f.params.toList s.vars apart W args.toList ds gs before) (hvars:s.vars= [])
  (hpar:(f.params.toList.all fun t=>P.readableRec t&&Nat.blt t P.types.size)=true) (hrt:f.resultTypes= #[tb]) (htb:P.underlying tb=some .bool) (hsr:(s.fn H (ds++gs)).results= [.lit (.bool true)]) (hsa:(s.fn H (ds++gs)).args=ds) (hsv:(s.fn H (ds++gs)).vars= [])
  (h:Gives P k args W fun u W'=>Below W.heap.size W W'∧u= .bool true):Calls P k args W fun e W'=> ∃v,e= .returned v∧s.post enc P f apart fresh handsOn false W args v W' :=
 h.mono fun u W' ⟨hb,hu⟩=>by
  subst hu
  exact law_post hl hW hvars hpar hrt htb hsr hsa hsv hb
end
end Go.PF
namespace Go.Proofs.YtobaafdejnimkaaGreatDoor
open Go.PF Go.RowKit Go.ChangeShapes Go.WideShapes Go.ChangeAt Go.Ord
theorem own_:ownKnob Tryz.prog.godebug=none:=by kernel_rfl
theorem laid_:laidOutB Tryz.prog=true:=by kernel_rfl
theorem i64_of_wf {n:Int} (h:(Lit.int .i64 n).wf=true):I64 n:=by
 simp only [Lit.wf,Bool.and_eq_true,decide_eq_true_eq] at h
 exact h
theorem opens_int:Opens Tryz.prog 3 intT:=by
 intro H enc w base spare held fuel cs x hx
 obtain ⟨a1,h1,_,w1⟩:=DataW.trod_int Tryz.underlying3 hx
 exact ⟨a1,h1,i64_of_wf w1⟩
theorem opens_ints:Opens Tryz.prog 32 (sliceT intT):=Opens.slice Tryz.underlying32 (by kernel_rfl) opens_int
theorem opens_str:Opens Tryz.prog 9 strT:=by
 intro H enc w base spare held fuel cs x hx
 obtain ⟨a1,h1,_,w1⟩:=DataW.trod_string Tryz.underlying9 hx
 exact ⟨a1,h1,w1⟩
theorem opens_strs:Opens Tryz.prog 23 (sliceT strT):=Opens.slice Tryz.underlying23 (by kernel_rfl) opens_str
theorem opens_rows:Opens Tryz.prog 30 (sliceT (sliceT intT)):=by
 refine Opens.slice Tryz.underlying30 (by kernel_rfl) ?_
 exact opens_ints
theorem opens_bool:Opens Tryz.prog 4 boolT:=by
 intro H enc w base spare held fuel cs x hx
 obtain ⟨a1,h1,_⟩:=DataW.trod_bool Tryz.underlying4 hx
 exact ⟨a1,h1⟩
theorem opens_bools:Opens Tryz.prog 134 (sliceT boolT):=Opens.slice Tryz.underlying134 (by kernel_rfl) opens_bool
theorem opens_ev:Opens Tryz.prog 60 evT:=by
 intro H enc w base spare held fuel cs x hx
 obtain ⟨xs,n,_,_,hlen,hxl,hf⟩:=DataW.trod_struct Tryz.underlying60 hx
 have kk:Tryz.prog.cellsOf 60=4:=by kernel_rfl
 have k0:Tryz.prog.cellsOf 3=1:=by kernel_rfl
 have k1:Tryz.prog.cellsOf 32=1:=by kernel_rfl
 match cs,hlen.trans kk with
 | [c0,c1,c2,c3],_ =>
  match xs,hxl with
  | [y0,y1,y2,y3],_ =>
   have e0:DataW.trod enc Tryz.prog w base spare held n 3 [c0]=some y0:=by
    have h:DataW.trod enc Tryz.prog w base spare held n 3 (([c0,c1,c2,c3].drop 0).take (Tryz.prog.cellsOf 3))=some y0:=hf 0 _ rfl
    rw [k0] at h
    exact h
   have e1:DataW.trod enc Tryz.prog w base spare held n 3 [c1]=some y1:=by
    have h:DataW.trod enc Tryz.prog w base spare held n 3 (([c0,c1,c2,c3].drop 1).take (Tryz.prog.cellsOf 3))=some y1:=hf 1 _ rfl
    rw [k0] at h
    exact h
   have e2:DataW.trod enc Tryz.prog w base spare held n 3 [c2]=some y2:=by
    have h:DataW.trod enc Tryz.prog w base spare held n 3 (([c0,c1,c2,c3].drop 2).take (Tryz.prog.cellsOf 3))=some y2:=hf 2 _ rfl
    rw [k0] at h
    exact h
   have e3:DataW.trod enc Tryz.prog w base spare held n 32 [c3]=some y3:=by
    have h:DataW.trod enc Tryz.prog w base spare held n 32 (([c0,c1,c2,c3].drop 3).take (Tryz.prog.cellsOf 32))=some y3:=hf 3 _ rfl
    rw [k1] at h
    exact h
   obtain ⟨a,h0,_,w0⟩:=DataW.trod_int Tryz.underlying3 e0
   obtain ⟨b,h1,_,w1⟩:=DataW.trod_int Tryz.underlying3 e1
   obtain ⟨c,h2,_,w2⟩:=DataW.trod_int Tryz.underlying3 e2
   obtain ⟨l,lv,h3,w3⟩:=opens_ints enc w base spare held n [c3] _ e3
   simp at h0 h1 h2 h3
   subst h0 h1 h2 h3
   exact ⟨⟨a,b,c,l⟩,_,rfl,i64_of_wf w0,i64_of_wf w1,i64_of_wf w2,w3⟩
theorem opens_evs:Opens Tryz.prog 31 (sliceT evT):=Opens.slice Tryz.underlying31 (by kernel_rfl) opens_ev
theorem opens_cal:Opens Tryz.prog 136 calT:=by
 intro H enc w base spare held fuel cs x hx
 obtain ⟨xs,n,_,_,hlen,hxl,hf⟩:=DataW.trod_struct Tryz.underlying136 hx
 have kk:Tryz.prog.cellsOf 136=3:=by kernel_rfl
 have k0:Tryz.prog.cellsOf 3=1:=by kernel_rfl
 have k1:Tryz.prog.cellsOf 134=1:=by kernel_rfl
 have k2:Tryz.prog.cellsOf 32=1:=by kernel_rfl
 match cs,hlen.trans kk with
 | [c0,c1,c2],_ =>
  match xs,hxl with
  | [y0,y1,y2],_ =>
   have e0:DataW.trod enc Tryz.prog w base spare held n 3 [c0]=some y0:=by
    have h:DataW.trod enc Tryz.prog w base spare held n 3 (([c0,c1,c2].drop 0).take (Tryz.prog.cellsOf 3))=some y0:=hf 0 _ rfl
    rw [k0] at h
    exact h
   have e1:DataW.trod enc Tryz.prog w base spare held n 134 [c1]=some y1:=by
    have h:DataW.trod enc Tryz.prog w base spare held n 134 (([c0,c1,c2].drop 1).take (Tryz.prog.cellsOf 134))=some y1:=hf 1 _ rfl
    rw [k1] at h
    exact h
   have e2:DataW.trod enc Tryz.prog w base spare held n 32 [c2]=some y2:=by
    have h:DataW.trod enc Tryz.prog w base spare held n 32 (([c0,c1,c2].drop 2).take (Tryz.prog.cellsOf 32))=some y2:=hf 2 _ rfl
    rw [k2] at h
    exact h
   obtain ⟨a,h0,_,w0⟩:=DataW.trod_int Tryz.underlying3 e0
   obtain ⟨b,bv,h1,w1⟩:=opens_bools enc w base spare held n [c1] _ e1
   obtain ⟨c,cv,h2,w2⟩:=opens_ints enc w base spare held n [c2] _ e2
   simp at h0 h1 h2
   subst h0 h1 h2
   exact ⟨⟨a,b,c⟩,_,_,rfl,i64_of_wf w0,w1,w2⟩
theorem opens_cals:Opens Tryz.prog 22 (sliceT calT):=Opens.slice Tryz.underlying22 (by kernel_rfl) opens_cal
theorem opens_op:Opens Tryz.prog 138 strT:=by
 intro H enc w base spare held fuel cs x hx
 obtain ⟨xs,n,_,_,hlen,hxl,hf⟩:=DataW.trod_struct Tryz.underlying138 hx
 have kk:Tryz.prog.cellsOf 138=1:=by kernel_rfl
 have k0:Tryz.prog.cellsOf 9=1:=by kernel_rfl
 match cs,hlen.trans kk with
 | [c0],_ =>
  match xs,hxl with
  | [y0],_ =>
   have e0:DataW.trod enc Tryz.prog w base spare held n 9 [c0]=some y0:=by
    have h:DataW.trod enc Tryz.prog w base spare held n 9 (([c0].drop 0).take (Tryz.prog.cellsOf 9))=some y0:=hf 0 _ rfl
    rw [k0] at h
    exact h
   obtain ⟨a,h0,_,w0⟩:=DataW.trod_string Tryz.underlying9 e0
   simp at h0
   subst h0
   exact ⟨a,rfl,w0⟩
theorem opens_ops:Opens Tryz.prog 24 (sliceT strT):=Opens.slice Tryz.underlying24 (by kernel_rfl) opens_op
theorem opens_of:Opens Tryz.prog 110 ofT:=by
 intro H enc w base spare held fuel cs x hx
 obtain ⟨xs,n,_,_,hlen,hxl,hf⟩:=DataW.trod_struct Tryz.underlying110 hx
 have kk:Tryz.prog.cellsOf 110=7:=by kernel_rfl
 have k0:Tryz.prog.cellsOf 9=1:=by kernel_rfl
 have k1:Tryz.prog.cellsOf 3=1:=by kernel_rfl
 have k2:Tryz.prog.cellsOf 23=1:=by kernel_rfl
 match cs,hlen.trans kk with
 | [c0,c1,c2,c3,c4,c5,c6],_ =>
  match xs,hxl with
  | [y0,y1,y2,y3,y4,y5,y6],_ =>
   have e0:DataW.trod enc Tryz.prog w base spare held n 9 [c0]=some y0:=by
    have h:DataW.trod enc Tryz.prog w base spare held n 9 (([c0,c1,c2,c3,c4,c5,c6].drop 0).take (Tryz.prog.cellsOf 9))=some y0:=hf 0 _ rfl
    rw [k0] at h
    exact h
   have e1:DataW.trod enc Tryz.prog w base spare held n 3 [c1]=some y1:=by
    have h:DataW.trod enc Tryz.prog w base spare held n 3 (([c0,c1,c2,c3,c4,c5,c6].drop 1).take (Tryz.prog.cellsOf 3))=some y1:=hf 1 _ rfl
    rw [k1] at h
    exact h
   have e2:DataW.trod enc Tryz.prog w base spare held n 3 [c2]=some y2:=by
    have h:DataW.trod enc Tryz.prog w base spare held n 3 (([c0,c1,c2,c3,c4,c5,c6].drop 2).take (Tryz.prog.cellsOf 3))=some y2:=hf 2 _ rfl
    rw [k1] at h
    exact h
   have e3:DataW.trod enc Tryz.prog w base spare held n 3 [c3]=some y3:=by
    have h:DataW.trod enc Tryz.prog w base spare held n 3 (([c0,c1,c2,c3,c4,c5,c6].drop 3).take (Tryz.prog.cellsOf 3))=some y3:=hf 3 _ rfl
    rw [k1] at h
    exact h
   have e4:DataW.trod enc Tryz.prog w base spare held n 3 [c4]=some y4:=by
    have h:DataW.trod enc Tryz.prog w base spare held n 3 (([c0,c1,c2,c3,c4,c5,c6].drop 4).take (Tryz.prog.cellsOf 3))=some y4:=hf 4 _ rfl
    rw [k1] at h
    exact h
   have e5:DataW.trod enc Tryz.prog w base spare held n 3 [c5]=some y5:=by
    have h:DataW.trod enc Tryz.prog w base spare held n 3 (([c0,c1,c2,c3,c4,c5,c6].drop 5).take (Tryz.prog.cellsOf 3))=some y5:=hf 5 _ rfl
    rw [k1] at h
    exact h
   have e6:DataW.trod enc Tryz.prog w base spare held n 23 [c6]=some y6:=by
    have h:DataW.trod enc Tryz.prog w base spare held n 23 (([c0,c1,c2,c3,c4,c5,c6].drop 6).take (Tryz.prog.cellsOf 23))=some y6:=hf 6 _ rfl
    rw [k2] at h
    exact h
   obtain ⟨a,h0,_,w0⟩:=DataW.trod_string Tryz.underlying9 e0
   obtain ⟨b,h1,_,w1⟩:=DataW.trod_int Tryz.underlying3 e1
   obtain ⟨c,h2,_,w2⟩:=DataW.trod_int Tryz.underlying3 e2
   obtain ⟨d,h3,_,w3⟩:=DataW.trod_int Tryz.underlying3 e3
   obtain ⟨e,h4,_,w4⟩:=DataW.trod_int Tryz.underlying3 e4
   obtain ⟨f,h5,_,w5⟩:=DataW.trod_int Tryz.underlying3 e5
   obtain ⟨g,gv,h6,w6⟩:=opens_strs enc w base spare held n [c6] _ e6
   simp at h0 h1 h2 h3 h4 h5 h6
   subst h0 h1 h2 h3 h4 h5 h6
   exact ⟨⟨a,b,c,d,e,f,g⟩,_,rfl,w0,i64_of_wf w1,i64_of_wf w2,i64_of_wf w3,i64_of_wf w4,i64_of_wf w5,w6⟩
theorem opens_ofs:Opens Tryz.prog 25 (sliceT ofT):=Opens.slice Tryz.underlying25 (by kernel_rfl) opens_of
theorem opens_li:Opens Tryz.prog 113 liT:=by
 intro H enc w base spare held fuel cs x hx
 obtain ⟨xs,n,_,_,hlen,hxl,hf⟩:=DataW.trod_struct Tryz.underlying113 hx
 have kk:Tryz.prog.cellsOf 113=6:=by kernel_rfl
 have k0:Tryz.prog.cellsOf 9=1:=by kernel_rfl
 have k1:Tryz.prog.cellsOf 3=1:=by kernel_rfl
 match cs,hlen.trans kk with
 | [c0,c1,c2,c3,c4,c5],_ =>
  match xs,hxl with
  | [y0,y1,y2,y3,y4,y5],_ =>
   have e0:DataW.trod enc Tryz.prog w base spare held n 9 [c0]=some y0:=by
    have h:DataW.trod enc Tryz.prog w base spare held n 9 (([c0,c1,c2,c3,c4,c5].drop 0).take (Tryz.prog.cellsOf 9))=some y0:=hf 0 _ rfl
    rw [k0] at h
    exact h
   have e1:DataW.trod enc Tryz.prog w base spare held n 3 [c1]=some y1:=by
    have h:DataW.trod enc Tryz.prog w base spare held n 3 (([c0,c1,c2,c3,c4,c5].drop 1).take (Tryz.prog.cellsOf 3))=some y1:=hf 1 _ rfl
    rw [k1] at h
    exact h
   have e2:DataW.trod enc Tryz.prog w base spare held n 3 [c2]=some y2:=by
    have h:DataW.trod enc Tryz.prog w base spare held n 3 (([c0,c1,c2,c3,c4,c5].drop 2).take (Tryz.prog.cellsOf 3))=some y2:=hf 2 _ rfl
    rw [k1] at h
    exact h
   have e3:DataW.trod enc Tryz.prog w base spare held n 3 [c3]=some y3:=by
    have h:DataW.trod enc Tryz.prog w base spare held n 3 (([c0,c1,c2,c3,c4,c5].drop 3).take (Tryz.prog.cellsOf 3))=some y3:=hf 3 _ rfl
    rw [k1] at h
    exact h
   have e4:DataW.trod enc Tryz.prog w base spare held n 3 [c4]=some y4:=by
    have h:DataW.trod enc Tryz.prog w base spare held n 3 (([c0,c1,c2,c3,c4,c5].drop 4).take (Tryz.prog.cellsOf 3))=some y4:=hf 4 _ rfl
    rw [k1] at h
    exact h
   have e5:DataW.trod enc Tryz.prog w base spare held n 3 [c5]=some y5:=by
    have h:DataW.trod enc Tryz.prog w base spare held n 3 (([c0,c1,c2,c3,c4,c5].drop 5).take (Tryz.prog.cellsOf 3))=some y5:=hf 5 _ rfl
    rw [k1] at h
    exact h
   obtain ⟨a,h0,_,w0⟩:=DataW.trod_string Tryz.underlying9 e0
   obtain ⟨b,h1,_,w1⟩:=DataW.trod_int Tryz.underlying3 e1
   obtain ⟨c,h2,_,w2⟩:=DataW.trod_int Tryz.underlying3 e2
   obtain ⟨d,h3,_,w3⟩:=DataW.trod_int Tryz.underlying3 e3
   obtain ⟨e,h4,_,w4⟩:=DataW.trod_int Tryz.underlying3 e4
   obtain ⟨f,h5,_,w5⟩:=DataW.trod_int Tryz.underlying3 e5
   simp at h0 h1 h2 h3 h4 h5
   subst h0 h1 h2 h3 h4 h5
   exact ⟨⟨a,b,c,d,e,f⟩,rfl,w0,i64_of_wf w1,i64_of_wf w2,i64_of_wf w3,i64_of_wf w4,i64_of_wf w5⟩
theorem opens_lis:Opens Tryz.prog 26 (sliceT liT):=Opens.slice Tryz.underlying26 (by kernel_rfl) opens_li
theorem opens_cla:Opens Tryz.prog 199 claT:=by
 intro H enc w base spare held fuel cs x hx
 obtain ⟨xs,n,_,_,hlen,hxl,hf⟩:=DataW.trod_struct Tryz.underlying199 hx
 have kk:Tryz.prog.cellsOf 199=3:=by kernel_rfl
 have k0:Tryz.prog.cellsOf 9=1:=by kernel_rfl
 have k1:Tryz.prog.cellsOf 3=1:=by kernel_rfl
 match cs,hlen.trans kk with
 | [c0,c1,c2],_ =>
  match xs,hxl with
  | [y0,y1,y2],_ =>
   have e0:DataW.trod enc Tryz.prog w base spare held n 9 [c0]=some y0:=by
    have h:DataW.trod enc Tryz.prog w base spare held n 9 (([c0,c1,c2].drop 0).take (Tryz.prog.cellsOf 9))=some y0:=hf 0 _ rfl
    rw [k0] at h
    exact h
   have e1:DataW.trod enc Tryz.prog w base spare held n 3 [c1]=some y1:=by
    have h:DataW.trod enc Tryz.prog w base spare held n 3 (([c0,c1,c2].drop 1).take (Tryz.prog.cellsOf 3))=some y1:=hf 1 _ rfl
    rw [k1] at h
    exact h
   have e2:DataW.trod enc Tryz.prog w base spare held n 3 [c2]=some y2:=by
    have h:DataW.trod enc Tryz.prog w base spare held n 3 (([c0,c1,c2].drop 2).take (Tryz.prog.cellsOf 3))=some y2:=hf 2 _ rfl
    rw [k1] at h
    exact h
   obtain ⟨a,h0,_,w0⟩:=DataW.trod_string Tryz.underlying9 e0
   obtain ⟨b,h1,_,w1⟩:=DataW.trod_int Tryz.underlying3 e1
   obtain ⟨c,h2,_,w2⟩:=DataW.trod_int Tryz.underlying3 e2
   simp at h0 h1 h2
   subst h0 h1 h2
   exact ⟨⟨a,b,c⟩,rfl,w0,i64_of_wf w1,i64_of_wf w2⟩
theorem opens_clas:Opens Tryz.prog 27 (sliceT claT):=Opens.slice Tryz.underlying27 (by kernel_rfl) opens_cla
def netT:Ty Net where
 n:=6
 rep:=fun F w cs N=> ∃v:NV,cs=v.cells∧NetIn F w v N
 len:=fun _ _ _ _ h=>by obtain ⟨v,h,_⟩:=h; rw [h]; rfl
 mono:=fun _ _ _ _ _ hk h=>by obtain ⟨v,h,h1⟩:=h; exact ⟨v,h,h1.c.mono hk,h1.n.mono hk,h1.o.mono hk,h1.f.mono hk,h1.l.mono hk,h1.k.mono hk⟩
 wider:=fun _ _ _ _ _ hF h=>by obtain ⟨v,h,h1⟩:=h; exact ⟨v,h,h1.wider hF⟩
theorem opens_net:Opens Tryz.prog 29 netT:=by
 intro H enc w base spare held fuel cs x hx
 obtain ⟨xs,n,_,_,hlen,hxl,hf⟩:=DataW.trod_struct Tryz.underlying29 hx
 have kk:Tryz.prog.cellsOf 29=6:=by kernel_rfl
 have k0:Tryz.prog.cellsOf 22=1:=by kernel_rfl
 have k1:Tryz.prog.cellsOf 23=1:=by kernel_rfl
 have k2:Tryz.prog.cellsOf 24=1:=by kernel_rfl
 have k3:Tryz.prog.cellsOf 25=1:=by kernel_rfl
 have k4:Tryz.prog.cellsOf 26=1:=by kernel_rfl
 have k5:Tryz.prog.cellsOf 27=1:=by kernel_rfl
 match cs,hlen.trans kk with
 | [c0,c1,c2,c3,c4,c5],_ =>
  match xs,hxl with
  | [y0,y1,y2,y3,y4,y5],_ =>
   have e0:DataW.trod enc Tryz.prog w base spare held n 22 [c0]=some y0:=by
    have h:DataW.trod enc Tryz.prog w base spare held n 22 (([c0,c1,c2,c3,c4,c5].drop 0).take (Tryz.prog.cellsOf 22))=some y0:=hf 0 _ rfl
    rw [k0] at h
    exact h
   have e1:DataW.trod enc Tryz.prog w base spare held n 23 [c1]=some y1:=by
    have h:DataW.trod enc Tryz.prog w base spare held n 23 (([c0,c1,c2,c3,c4,c5].drop 1).take (Tryz.prog.cellsOf 23))=some y1:=hf 1 _ rfl
    rw [k1] at h
    exact h
   have e2:DataW.trod enc Tryz.prog w base spare held n 24 [c2]=some y2:=by
    have h:DataW.trod enc Tryz.prog w base spare held n 24 (([c0,c1,c2,c3,c4,c5].drop 2).take (Tryz.prog.cellsOf 24))=some y2:=hf 2 _ rfl
    rw [k2] at h
    exact h
   have e3:DataW.trod enc Tryz.prog w base spare held n 25 [c3]=some y3:=by
    have h:DataW.trod enc Tryz.prog w base spare held n 25 (([c0,c1,c2,c3,c4,c5].drop 3).take (Tryz.prog.cellsOf 25))=some y3:=hf 3 _ rfl
    rw [k3] at h
    exact h
   have e4:DataW.trod enc Tryz.prog w base spare held n 26 [c4]=some y4:=by
    have h:DataW.trod enc Tryz.prog w base spare held n 26 (([c0,c1,c2,c3,c4,c5].drop 4).take (Tryz.prog.cellsOf 26))=some y4:=hf 4 _ rfl
    rw [k4] at h
    exact h
   have e5:DataW.trod enc Tryz.prog w base spare held n 27 [c5]=some y5:=by
    have h:DataW.trod enc Tryz.prog w base spare held n 27 (([c0,c1,c2,c3,c4,c5].drop 5).take (Tryz.prog.cellsOf 27))=some y5:=hf 5 _ rfl
    rw [k5] at h
    exact h
   obtain ⟨a,av,h0,w0⟩:=opens_cals enc w base spare held n [c0] _ e0
   obtain ⟨b,bv,h1,w1⟩:=opens_strs enc w base spare held n [c1] _ e1
   obtain ⟨c,cv,h2,w2⟩:=opens_ops enc w base spare held n [c2] _ e2
   obtain ⟨d,dv,h3,w3⟩:=opens_ofs enc w base spare held n [c3] _ e3
   obtain ⟨e,ev,h4,w4⟩:=opens_lis enc w base spare held n [c4] _ e4
   obtain ⟨f,fv,h5,w5⟩:=opens_clas enc w base spare held n [c5] _ e5
   simp at h0 h1 h2 h3 h4 h5
   subst h0 h1 h2 h3 h4 h5
   exact ⟨⟨a,b,c,d,e,f⟩,⟨_,_,_,_,_,_⟩,rfl,⟨w0,w1,w2,w3,w4,w5⟩⟩
theorem strs_of_array {H:Type} {enc:TypeId×Value→H} {P:Program} {w:World} {base:Nat} {sp:Nat→Bool} {held:Bool} {fuel:Nat} {t e:TypeId} {n:Nat} {cs:List Value} {ss:List ByteArray} {p:List MemPlace} (ht:P.underlying t=some (.array n e)) (he:P.underlying e=some .string) (hce:P.cellsOf e=1) (hct:P.cellsOf t=n)
  (h:DataW.trod enc P w base sp held fuel t cs=some (.agg (ss.map fun s=> .lit (.string s.data.toList)),p)):cs=ss.map Value.string:=by
 obtain ⟨xs,m,rfl,hx,hl,hxl,hall⟩:=DataW.trod_array ht h
 have hxs:xs.map (·.1)=ss.map fun s=>(DataW.lit (.string s.data.toList):DataW H):=by
  have:=congrArg Prod.fst hx
  simpa using this.symm
 have hsl:ss.length=n:=by
  have:=congrArg List.length hxs
  simp at this
  omega
 apply List.ext_getElem?
 intro i
 by_cases hi:i<n
 ·have h1:=hall i hi
  obtain ⟨b,hb⟩: ∃b,xs[i]?=some b:=⟨xs[i]'(by omega),List.getElem?_eq_getElem (by omega)⟩
  rw [hb,hce] at h1
  obtain ⟨s,hcs,rfl,_⟩:=DataW.trod_string he h1
  have h2:cs[i]?=some (.string s):=by
   have:=congrArg (·[0]?) hcs
   simpa [List.getElem?_take,List.getElem?_drop] using this
  have h3:(xs.map (·.1))[i]?=some (DataW.lit (.string s.data.toList):DataW H):=by simp [hb]
  rw [hxs] at h3
  simp only [List.getElem?_map,Option.map_eq_some_iff,DataW.lit.injEq,Lit.string.injEq] at h3
  obtain ⟨z,hz,hzs⟩:=h3
  have:z=s:=ByteArray.ext (Array.toList_inj.1 hzs)
  subst this
  simp [h2,hz]
 ·rw [List.getElem?_eq_none (by omega),List.getElem?_eq_none (by simp; omega)]
def postT:Ty Cl where
 n:=5
 rep:=fun _ _ cs c=>cs= [.string c.label,.int .i64 c.fr,.int .i64 c.to,.int .i64 c.cls,.int .i64 c.acc]∧I64 c.fr∧I64 c.to∧I64 c.cls∧I64 c.acc
 len:=fun _ _ _ _ h=>by rw [h.1]; rfl
 mono:=fun _ _ _ _ _ _ h=>h
 wider:=fun _ _ _ _ _ _ h=>h
def claT':Ty Cl where
 n:=7
 rep:=fun _ _ cs c=>cs=clV c∧ClI c
 len:=fun _ _ _ _ h=>by rw [h.1]; rfl
 mono:=fun _ _ _ _ _ _ h=>h
 wider:=fun _ _ _ _ _ _ h=>h
def docT:Ty Dc where
 n:=8
 rep:=fun _ _ cs d=>cs=dcV d∧DcOK d
 len:=fun _ _ _ _ h=>by rw [h.1]; rfl
 mono:=fun _ _ _ _ _ _ h=>h
 wider:=fun _ _ _ _ _ _ h=>h
def prfT:Ty (Int×List Int) where
 n:=2
 rep:=fun F w cs p=> ∃v,cs= [.int .i64 p.1,v]∧I64 p.1∧SL intT F w v p.2
 len:=fun _ _ _ _ h=>by obtain ⟨v,h,_⟩:=h; rw [h]; rfl
 mono:=fun _ _ _ _ _ hk h=>by obtain ⟨v,h,h1,hs⟩:=h; exact ⟨v,h,h1,hs.mono hk⟩
 wider:=fun _ _ _ _ _ hF h=>by obtain ⟨v,h,h1,hs⟩:=h; exact ⟨v,h,h1,hs.wider hF⟩
theorem opens_post:Opens Tryz.prog 35 postT:=by
 intro H enc w base spare held fuel cs x hx
 obtain ⟨xs,n,_,_,hlen,hxl,hf⟩:=DataW.trod_struct Tryz.underlying35 hx
 have kk:Tryz.prog.cellsOf 35=5:=by kernel_rfl
 have k0:Tryz.prog.cellsOf 9=1:=by kernel_rfl
 have k1:Tryz.prog.cellsOf 3=1:=by kernel_rfl
 match cs,hlen.trans kk with
 | [c0,c1,c2,c3,c4],_ =>
  match xs,hxl with
  | [y0,y1,y2,y3,y4],_ =>
   have e0:DataW.trod enc Tryz.prog w base spare held n 9 [c0]=some y0:=by
    have h:DataW.trod enc Tryz.prog w base spare held n 9 (([c0,c1,c2,c3,c4].drop 0).take (Tryz.prog.cellsOf 9))=some y0:=hf 0 _ rfl
    rw [k0] at h
    exact h
   have e1:DataW.trod enc Tryz.prog w base spare held n 3 [c1]=some y1:=by
    have h:DataW.trod enc Tryz.prog w base spare held n 3 (([c0,c1,c2,c3,c4].drop 1).take (Tryz.prog.cellsOf 3))=some y1:=hf 1 _ rfl
    rw [k1] at h
    exact h
   have e2:DataW.trod enc Tryz.prog w base spare held n 3 [c2]=some y2:=by
    have h:DataW.trod enc Tryz.prog w base spare held n 3 (([c0,c1,c2,c3,c4].drop 2).take (Tryz.prog.cellsOf 3))=some y2:=hf 2 _ rfl
    rw [k1] at h
    exact h
   have e3:DataW.trod enc Tryz.prog w base spare held n 3 [c3]=some y3:=by
    have h:DataW.trod enc Tryz.prog w base spare held n 3 (([c0,c1,c2,c3,c4].drop 3).take (Tryz.prog.cellsOf 3))=some y3:=hf 3 _ rfl
    rw [k1] at h
    exact h
   have e4:DataW.trod enc Tryz.prog w base spare held n 3 [c4]=some y4:=by
    have h:DataW.trod enc Tryz.prog w base spare held n 3 (([c0,c1,c2,c3,c4].drop 4).take (Tryz.prog.cellsOf 3))=some y4:=hf 4 _ rfl
    rw [k1] at h
    exact h
   obtain ⟨a,h0,_,w0⟩:=DataW.trod_string Tryz.underlying9 e0
   obtain ⟨b,h1,_,w1⟩:=DataW.trod_int Tryz.underlying3 e1
   obtain ⟨c,h2,_,w2⟩:=DataW.trod_int Tryz.underlying3 e2
   obtain ⟨d,h3,_,w3⟩:=DataW.trod_int Tryz.underlying3 e3
   obtain ⟨e,h4,_,w4⟩:=DataW.trod_int Tryz.underlying3 e4
   simp at h0
   subst h0
   simp at h1
   subst h1
   simp at h2
   subst h2
   simp at h3
   subst h3
   simp at h4
   subst h4
   exact ⟨⟨a,b,c,d,e,0,0⟩,rfl,i64_of_wf w1,i64_of_wf w2,i64_of_wf w3,i64_of_wf w4⟩
theorem opens_claim:Opens Tryz.prog 37 claT':=by
 intro H enc w base spare held fuel cs x hx
 obtain ⟨xs,n,_,_,hlen,hxl,hf⟩:=DataW.trod_struct Tryz.underlying37 hx
 have kk:Tryz.prog.cellsOf 37=7:=by kernel_rfl
 have k0:Tryz.prog.cellsOf 35=5:=by kernel_rfl
 have k1:Tryz.prog.cellsOf 3=1:=by kernel_rfl
 match cs,hlen.trans kk with
 | [c0,c1,c2,c3,c4,c5,c6],_ =>
  match xs,hxl with
  | [y0,y1,y2],_ =>
   have e0:DataW.trod enc Tryz.prog w base spare held n 35 [c0,c1,c2,c3,c4]=some y0:=by
    have h:DataW.trod enc Tryz.prog w base spare held n 35 (([c0,c1,c2,c3,c4,c5,c6].drop 0).take (Tryz.prog.cellsOf 35))=some y0:=hf 0 _ rfl
    rw [k0] at h
    exact h
   have e1:DataW.trod enc Tryz.prog w base spare held n 3 [c5]=some y1:=by
    have h:DataW.trod enc Tryz.prog w base spare held n 3 (([c0,c1,c2,c3,c4,c5,c6].drop 5).take (Tryz.prog.cellsOf 3))=some y1:=hf 1 _ rfl
    rw [k1] at h
    exact h
   have e2:DataW.trod enc Tryz.prog w base spare held n 3 [c6]=some y2:=by
    have h:DataW.trod enc Tryz.prog w base spare held n 3 (([c0,c1,c2,c3,c4,c5,c6].drop 6).take (Tryz.prog.cellsOf 3))=some y2:=hf 2 _ rfl
    rw [k1] at h
    exact h
   obtain ⟨p,w0⟩:=opens_post enc w base spare held n [c0,c1,c2,c3,c4] _ e0
   obtain ⟨h0,q1,q2,q3,q4⟩:=w0
   obtain ⟨due,h1,_,w1⟩:=DataW.trod_int Tryz.underlying3 e1
   obtain ⟨amt,h2,_,w2⟩:=DataW.trod_int Tryz.underlying3 e2
   cases h0
   simp at h1
   subst h1
   simp at h2
   subst h2
   exact ⟨⟨p.label,p.fr,p.to,p.cls,p.acc,due,amt⟩,rfl,⟨q1,q2,q3,q4,i64_of_wf w1,i64_of_wf w2⟩⟩
theorem opens_doc:Opens Tryz.prog 63 docT:=by
 intro H enc w base spare held fuel cs x hx
 obtain ⟨xs,n,_,_,hlen,hxl,hf⟩:=DataW.trod_struct Tryz.underlying63 hx
 have kk:Tryz.prog.cellsOf 63=8:=by kernel_rfl
 have k0:Tryz.prog.cellsOf 9=1:=by kernel_rfl
 have k1:Tryz.prog.cellsOf 3=1:=by kernel_rfl
 match cs,hlen.trans kk with
 | [c0,c1,c2,c3,c4,c5,c6,c7],_ =>
  match xs,hxl with
  | [y0,y1,y2,y3,y4,y5,y6,y7],_ =>
   have e0:DataW.trod enc Tryz.prog w base spare held n 9 [c0]=some y0:=by
    have h:DataW.trod enc Tryz.prog w base spare held n 9 (([c0,c1,c2,c3,c4,c5,c6,c7].drop 0).take (Tryz.prog.cellsOf 9))=some y0:=hf 0 _ rfl
    rw [k0] at h
    exact h
   have e1:DataW.trod enc Tryz.prog w base spare held n 3 [c1]=some y1:=by
    have h:DataW.trod enc Tryz.prog w base spare held n 3 (([c0,c1,c2,c3,c4,c5,c6,c7].drop 1).take (Tryz.prog.cellsOf 3))=some y1:=hf 1 _ rfl
    rw [k1] at h
    exact h
   have e2:DataW.trod enc Tryz.prog w base spare held n 3 [c2]=some y2:=by
    have h:DataW.trod enc Tryz.prog w base spare held n 3 (([c0,c1,c2,c3,c4,c5,c6,c7].drop 2).take (Tryz.prog.cellsOf 3))=some y2:=hf 2 _ rfl
    rw [k1] at h
    exact h
   have e3:DataW.trod enc Tryz.prog w base spare held n 3 [c3]=some y3:=by
    have h:DataW.trod enc Tryz.prog w base spare held n 3 (([c0,c1,c2,c3,c4,c5,c6,c7].drop 3).take (Tryz.prog.cellsOf 3))=some y3:=hf 3 _ rfl
    rw [k1] at h
    exact h
   have e4:DataW.trod enc Tryz.prog w base spare held n 3 [c4]=some y4:=by
    have h:DataW.trod enc Tryz.prog w base spare held n 3 (([c0,c1,c2,c3,c4,c5,c6,c7].drop 4).take (Tryz.prog.cellsOf 3))=some y4:=hf 4 _ rfl
    rw [k1] at h
    exact h
   have e5:DataW.trod enc Tryz.prog w base spare held n 3 [c5]=some y5:=by
    have h:DataW.trod enc Tryz.prog w base spare held n 3 (([c0,c1,c2,c3,c4,c5,c6,c7].drop 5).take (Tryz.prog.cellsOf 3))=some y5:=hf 5 _ rfl
    rw [k1] at h
    exact h
   have e6:DataW.trod enc Tryz.prog w base spare held n 3 [c6]=some y6:=by
    have h:DataW.trod enc Tryz.prog w base spare held n 3 (([c0,c1,c2,c3,c4,c5,c6,c7].drop 6).take (Tryz.prog.cellsOf 3))=some y6:=hf 6 _ rfl
    rw [k1] at h
    exact h
   have e7:DataW.trod enc Tryz.prog w base spare held n 3 [c7]=some y7:=by
    have h:DataW.trod enc Tryz.prog w base spare held n 3 (([c0,c1,c2,c3,c4,c5,c6,c7].drop 7).take (Tryz.prog.cellsOf 3))=some y7:=hf 7 _ rfl
    rw [k1] at h
    exact h
   obtain ⟨a,h0,_,w0⟩:=DataW.trod_string Tryz.underlying9 e0
   obtain ⟨b,h1,_,w1⟩:=DataW.trod_int Tryz.underlying3 e1
   obtain ⟨c,h2,_,w2⟩:=DataW.trod_int Tryz.underlying3 e2
   obtain ⟨d,h3,_,w3⟩:=DataW.trod_int Tryz.underlying3 e3
   obtain ⟨e,h4,_,w4⟩:=DataW.trod_int Tryz.underlying3 e4
   obtain ⟨f,h5,_,w5⟩:=DataW.trod_int Tryz.underlying3 e5
   obtain ⟨g,h6,_,w6⟩:=DataW.trod_int Tryz.underlying3 e6
   obtain ⟨k,h7,_,w7⟩:=DataW.trod_int Tryz.underlying3 e7
   simp at h0
   subst h0
   simp at h1
   subst h1
   simp at h2
   subst h2
   simp at h3
   subst h3
   simp at h4
   subst h4
   simp at h5
   subst h5
   simp at h6
   subst h6
   simp at h7
   subst h7
   exact ⟨⟨a,b,c,d,e,f,g,k⟩,rfl,i64_of_wf w1,i64_of_wf w2,i64_of_wf w3,i64_of_wf w4,i64_of_wf w5,i64_of_wf w6,i64_of_wf w7⟩
theorem opens_prf:Opens Tryz.prog 65 prfT:=by
 intro H enc w base spare held fuel cs x hx
 obtain ⟨xs,n,_,_,hlen,hxl,hf⟩:=DataW.trod_struct Tryz.underlying65 hx
 have kk:Tryz.prog.cellsOf 65=2:=by kernel_rfl
 have k0:Tryz.prog.cellsOf 3=1:=by kernel_rfl
 have k1:Tryz.prog.cellsOf 32=1:=by kernel_rfl
 match cs,hlen.trans kk with
 | [c0,c1],_ =>
  match xs,hxl with
  | [y0,y1],_ =>
   have e0:DataW.trod enc Tryz.prog w base spare held n 3 [c0]=some y0:=by
    have h:DataW.trod enc Tryz.prog w base spare held n 3 (([c0,c1].drop 0).take (Tryz.prog.cellsOf 3))=some y0:=hf 0 _ rfl
    rw [k0] at h
    exact h
   have e1:DataW.trod enc Tryz.prog w base spare held n 32 [c1]=some y1:=by
    have h:DataW.trod enc Tryz.prog w base spare held n 32 (([c0,c1].drop 1).take (Tryz.prog.cellsOf 32))=some y1:=hf 1 _ rfl
    rw [k1] at h
    exact h
   obtain ⟨a,h0,_,w0⟩:=DataW.trod_int Tryz.underlying3 e0
   obtain ⟨l,lv,h1,w1⟩:=opens_ints enc w base spare held n [c1] _ e1
   simp at h0
   subst h0
   simp at h1
   subst h1
   exact ⟨⟨a,l⟩,_,rfl,i64_of_wf w0,w1⟩
theorem opens_paper:Opens Tryz.prog 67 ppT:=by
 intro H enc w base spare held fuel cs x hx
 obtain ⟨xs,n,_,_,hlen,hxl,hf⟩:=DataW.trod_struct Tryz.underlying67 hx
 have kk:Tryz.prog.cellsOf 67=11:=by kernel_rfl
 have k0:Tryz.prog.cellsOf 63=8:=by kernel_rfl
 have k1:Tryz.prog.cellsOf 9=1:=by kernel_rfl
 have k2:Tryz.prog.cellsOf 65=2:=by kernel_rfl
 match cs,hlen.trans kk with
 | [c0,c1,c2,c3,c4,c5,c6,c7,c8,c9,c10],_ =>
  match xs,hxl with
  | [y0,y1,y2],_ =>
   have e0:DataW.trod enc Tryz.prog w base spare held n 63 [c0,c1,c2,c3,c4,c5,c6,c7]=some y0:=by
    have h:DataW.trod enc Tryz.prog w base spare held n 63 (([c0,c1,c2,c3,c4,c5,c6,c7,c8,c9,c10].drop 0).take (Tryz.prog.cellsOf 63))=some y0:=hf 0 _ rfl
    rw [k0] at h
    exact h
   have e1:DataW.trod enc Tryz.prog w base spare held n 9 [c8]=some y1:=by
    have h:DataW.trod enc Tryz.prog w base spare held n 9 (([c0,c1,c2,c3,c4,c5,c6,c7,c8,c9,c10].drop 8).take (Tryz.prog.cellsOf 9))=some y1:=hf 1 _ rfl
    rw [k1] at h
    exact h
   have e2:DataW.trod enc Tryz.prog w base spare held n 65 [c9,c10]=some y2:=by
    have h:DataW.trod enc Tryz.prog w base spare held n 65 (([c0,c1,c2,c3,c4,c5,c6,c7,c8,c9,c10].drop 9).take (Tryz.prog.cellsOf 65))=some y2:=hf 2 _ rfl
    rw [k2] at h
    exact h
   obtain ⟨d,w0⟩:=opens_doc enc w base spare held n [c0,c1,c2,c3,c4,c5,c6,c7] _ e0
   obtain ⟨h0,q0⟩:=w0
   obtain ⟨s,h1,_,w1⟩:=DataW.trod_string Tryz.underlying9 e1
   obtain ⟨p,w2⟩:=opens_prf enc w base spare held n [c9,c10] _ e2
   obtain ⟨pv,h2,q2,q3⟩:=w2
   cases h0
   simp at h1
   subst h1
   cases h2
   exact ⟨⟨d,s,p.1,p.2⟩,_,rfl,q0,q2,q3⟩
theorem opens_papers:Opens Tryz.prog 33 (sliceT ppT):=Opens.slice Tryz.underlying33 (by kernel_rfl) opens_paper
abbrev laidAll:List (String×DataW Unit):= [("math/bits.deBruijn32tab",Rows.laid_math_bits_deBruijn32tab),("math/bits.deBruijn64tab",Rows.laid_math_bits_deBruijn64tab),("internal/strconv.uint64pow10",Rows.laid_internal_strconv_uint64pow10),("postilion/survey.keyWords",Rows.laid_postilion_survey_keyWords)]
theorem gKey:Tryz.prog.globalNamed "postilion/survey.keyWords" = some 0:=by kernel_rfl
theorem tKey:(Tryz.prog.globals[0]?).map (·.type)=some 282:=by kernel_rfl
theorem keyData:(Rows.laid_postilion_survey_keyWords:DataW Unit)= .agg (keys11.map fun s=> .lit (.string s.data.toList)):=by rfl
theorem tabs_of_laid {W:World} (h:laidMetH Tryz.prog laidAll W):Tabs W:=by
 rw [MakeChecks.laidMetH_plain _ _ _ (by kernel_rfl)] at h
 obtain ⟨ps,⟨g0,t0,cs0,f0,p0,q0,hg0,ht0,hv0,hd0,⟨g1,t1,cs1,f1,p1,q1,hg1,ht1,hv1,hd1,⟨g2,t2,cs2,f2,p2,q2,hg2,ht2,hv2,hd2,⟨g3,t3,cs3,f3,p3,q3,hg3,ht3,hv3,hd3,_,_⟩,_⟩,_⟩,_⟩,_,_⟩:=h
 obtain rfl:=Option.some.inj (gKey.symm.trans hg3)
 obtain rfl:=Option.some.inj (tKey.symm.trans ht3)
 rw [keyData] at hd3
 have c0:=strs_of_array Tryz.underlying282 Tryz.underlying9 (by kernel_rfl) (by kernel_rfl) hd3
 refine ⟨fun i s hs=> ?_⟩
 have hv:W.var? Tryz.prog "postilion/survey.keyWords" = some (keys11.map Value.string).toArray:=by rw [hv3,←c0]
 have hi:i<keys11.length:=(List.getElem?_eq_some_iff.1 hs).1
 have:=World.var?_cell gKey hv i
 rw [this]
 simp [hs]
end Go.Proofs.YtobaafdejnimkaaGreatDoor
namespace Go.PF
open Go.RowKit Go.ChangeShapes Go.WideShapes Go.ChangeAt
section
variable {H:Type} {enc:TypeId×Value→H} {P:Program} {w:World} {base:Nat} {spare:Nat→Bool} {held:Bool}
theorem trodAll_six {t0 t1 t2 t3 t4 t5:TypeId} {args:Array Value} {ds:List (DataW H)} {ps:List MemPlace} (h:DataW.TrodAll enc P w base spare held [t0,t1,t2,t3,t4,t5] args.toList ds ps) :
  ∃ v0 v1 v2 v3 v4 v5 d0 d1 d2 d3 d4 d5 p0 p1 p2 p3 p4 p5,args= #[v0,v1,v2,v3,v4,v5]∧ds= [d0,d1,d2,d3,d4,d5]∧ps=p0++p1++p2++p3++p4++p5∧DataW.Trod enc P w base spare held t0 v0 d0 p0∧DataW.Trod enc P w base spare held t1 v1 d1 p1∧DataW.Trod enc P w base spare held t2 v2 d2 p2∧DataW.Trod enc P w base spare held t3 v3 d3 p3∧DataW.Trod enc P w base spare held t4 v4 d4 p4∧DataW.Trod enc P w base spare held t5 v5 d5 p5:=by
 obtain ⟨v0,vs0,d0,ds0,p0,q0,hargs,rfl,rfl,hd0,h0⟩:=trodAll_cons h
 obtain ⟨v1,vs1,d1,ds1,p1,q1,rfl,rfl,rfl,hd1,h1⟩:=trodAll_cons h0
 obtain ⟨v2,vs2,d2,ds2,p2,q2,rfl,rfl,rfl,hd2,h2⟩:=trodAll_cons h1
 obtain ⟨v3,vs3,d3,ds3,p3,q3,rfl,rfl,rfl,hd3,h3⟩:=trodAll_cons h2
 obtain ⟨v4,vs4,d4,ds4,p4,q4,rfl,rfl,rfl,hd4,h4⟩:=trodAll_cons h3
 obtain ⟨v5,vs5,d5,ds5,p5,q5,rfl,rfl,rfl,hd5,h5⟩:=trodAll_cons h4
 obtain ⟨rfl,rfl,rfl⟩:=trodAll_nil h5
 exact ⟨v0,v1,v2,v3,v4,v5,d0,d1,d2,d3,d4,d5,p0,p1,p2,p3,p4,p5,by cases args; simp_all,rfl,by simp,hd0,hd1,hd2,hd3,hd4,hd5⟩
end
end Go.PF
namespace Go.Proofs.YtobaafdejnimkaaGreatDoor
theorem k_out:laidOutB Tryz.checked.prog=true:=by kernel_rfl
theorem k_maps:mapsRowed Tryz.checked.prog=true:=by kernel_rfl
theorem k_keys:Tryz.checked.prog.plainKeys=Rows.verdictDueRow.plainKeys:=by kernel_rfl
theorem k_heard:Tryz.checked.prog.stopsHeard=true:=by kernel_rfl
theorem k_enter:Tryz.checked.prog.mayEnter=true:=by kernel_rfl
theorem k_lift:Tryz.checked.prog.liftsFinal=Rows.verdictDueRow.lifted:=by kernel_rfl
theorem k_make:Tryz.checked.prog.make=some Rows.verdictDueRow.make:=by kernel_rfl
theorem k_look:false=Tryz.checked.prog.looks []:=by kernel_rfl
theorem k_main:Tryz.checked.prog.mainIs=some (true, "43fdc426b1b74d508c41e18fede44755061ec8034fbf0cbe4b16b3b10dac5e22".toList):=by kernel_rfl
end Go.Proofs.YtobaafdejnimkaaGreatDoor
