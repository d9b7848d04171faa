/- Texts of this claim,joined. -/
import Derived.Test.YtffjgpoadfkjlaaGreatDoorQN
import Derived.KernelRfl
set_option linter.unusedSimpArgs false
set_option linter.unusedVariables false
set_option maxRecDepth 100000
set_option maxHeartbeats 4000000
namespace Go.Proofs.YtffjgpoadfkjlaaGreatDoor
open Go.PF Go.RowKit Go.Ord
attribute [local irreducible] TW CW KW DW
variable {N:Net} {w w0 W:World} {v:NV} {i n k g:Nat} {r:List Int}
theorem numbers_c (hN:NetAt w v N) (hf:FewN N) (h1:1≤k) (h5:k≤5) (hi:i<(namesK N k).length):Gives Tryz.prog 139 #[.agg v.cells.toArray,.int .i64 (k:Int),.int .i64 (i:Int)] w fun u w'=>Below w.heap.size w w'∧u= .bool (dec (numK N k i)):=by
 have one: ∀ {α:Type} {l:List α} {x:α} {p:α→Prop},l[i]?=some x→(p x↔ ∀y,l[i]?=some y→p y):=fun {α l x p} hx=>⟨fun h y hy=>by rw [hx] at hy; cases hy; exact h,fun h=>h _ hx⟩
 have:k=1∨k=2∨k=3∨k=4∨k=5:=by omega
 rcases this with rfl|rfl|rfl|rfl|rfl
 ·obtain ⟨x,hx,_⟩:=getx (l:=N.cals) (k:=i) (by have:(namesK N 1).length=N.cals.length:=calNm_len N; omega)
  exact (numbers1_c hN hf hx).mono fun u w' ⟨p1,p2⟩=>⟨p1,by rw [p2]; exact congrArg _ (dec_congr (one hx))⟩
 ·obtain ⟨x,hx,_⟩:=getx (l:=N.ops) (k:=i) hi
  exact (numbers2_c hN hf hx).mono fun u w' ⟨p1,p2⟩=>⟨p1,p2⟩
 ·obtain ⟨x,hx,_⟩:=getx (l:=N.offs) (k:=i) (by have:(namesK N 3).length=N.offs.length:=List.length_map _; omega)
  exact (numbers3_c hN hf hx).mono fun u w' ⟨p1,p2⟩=>⟨p1,by rw [p2]; exact congrArg _ (dec_congr (one hx))⟩
 ·obtain ⟨x,hx,_⟩:=getx (l:=N.lines) (k:=i) (by have:(namesK N 4).length=N.lines.length:=List.length_map _; omega)
  exact (numbers4_c hN hf hx).mono fun u w' ⟨p1,p2⟩=>⟨p1,by rw [p2]; exact congrArg _ (dec_congr (one hx))⟩
 ·obtain ⟨x,hx,_⟩:=getx (l:=N.classes) (k:=i) (by have:(namesK N 5).length=N.classes.length:=List.length_map _; omega)
  exact (numbers5_c hN hf hx).mono fun u w' ⟨p1,p2⟩=>⟨p1,by rw [p2]; exact congrArg _ (dec_congr (one hx))⟩
theorem names_c (hN:NetAt w v N) (hf:FewN N) (h1:1≤k) (h5:k≤5):Gives Tryz.prog 91 #[.agg v.cells.toArray,.int .i64 (k:Int)] w fun u w'=>Below w.heap.size w w'∧StrRow w' w.heap.size u (namesK N k):=by
 have:k=1∨k=2∨k=3∨k=4∨k=5:=by omega
 rcases this with rfl|rfl|rfl|rfl|rfl
 ·exact names1_c hN hf
 ·exact names2_c hN hf
 ·exact names3_c hN hf
 ·exact names4_c hN hf
 ·exact names5_c hN hf
theorem errno_c {b:Nat} {lv:Value} (hN:NetAt w v N) (hf:FewN N) (h1:1≤k) (h5:k≤5) (hR:StrRow w b lv (namesK N k)) (hi:i<(namesK N k).length):Gives Tryz.prog 129 #[.agg v.cells.toArray,.int .i64 (k:Int),lv,.int .i64 (i:Int)] w fun u w'=>Below w.heap.size w w'∧ ∃e:Int,u= .int .i64 e∧(e=0↔eOK N k i):=by
 have hform:=NetIn.form hN
 obtain ⟨vc,vn,vo,vf,vl,vk⟩:=v
 obtain ⟨⟨A1,c1,e1⟩,⟨A2,c2,e2⟩,⟨A3,c3,e3⟩,⟨A4,c4,e4⟩,⟨A5,c5,e5⟩,⟨A6,c6,e6⟩⟩:=id hform
 dsimp only at e1 e2 e3 e4 e5 e6
 subst e1 e2 e3 e4 e5 e6
 obtain ⟨A,cap,rfl⟩:=hR.form
 have hnl:=hf.names k
 obtain ⟨s,hs,hsm⟩:=getx (l:=namesK N k) (k:=i) hi
 have heok:eOK N k i↔NameOK keys11 s∧s ∉ (namesK N k).take i∧numK N k i:=⟨fun h=>h s hs,fun h z hz=>by rw [hs] at hz; cases hz; exact h⟩
 obtain ⟨g,rfl,_⟩:=hR.at hs
 refine gv (f:=129) ?_
 refine rnT ?_
 refine TW.box rfl rfl rfl rfl ?_
 rintro g1 w1 f1
 refine rnT ?_
 have hB1:=f1.blk
 have hN1:=net_step hN f1.below
 have hR1:=hR.below f1.below
 obtain ⟨g',e',hsc1⟩:=hR1.at hs
 cases e'
 refine TW.ld rfl hsc1 ?_
 refine TW.cl rfl (rname_c (s:=s)) ?_
 rintro y2 w2 ⟨b2,rfl⟩
 have b02:=f1.below.step b2
 refine rnT ?_
 refine CW.cond rfl (fun hbad=> ?_) (fun hgood=> ?_)
 ·refine rnT ?_
  refine rt1 rfl ⟨b02,1,rfl,⟨fun h=>by omega,fun h=> ?_⟩⟩
  rw [dec_pos (heok.1 h).1] at hbad
  simp at hbad
 have hnm:NameOK keys11 s:=dec_iff.1 (by simpa using hgood)
 refine rnT ?_
 refine CW.lp [1,2,3,4] (fun j:Nat=> [(10,none,.int .i64 (j:Int))])
  (fun j W=>j≤i∧Below w2.heap.size w2 W∧s ∉ (namesK N k).take j) (fun j=>i-j) 0 ⟨Nat.zero_le _,Below.refl _ _,by simp⟩ ?_
 rintro j W ⟨hj,hW,hno⟩
 have hRW:=(hR1.below b2).below hW
 have hBW:=(hB1.next b2).next hW
 have hNW:=net_step (net_step hN1 b2) hW
 refine rnT ?_
 refine CW.condP rfl (fun hlt=> ?_) (fun hge=> ?_)
 ·obtain ⟨z,hz,hzm⟩:=getx (l:=namesK N k) (k:=j) (by omega)
  obtain ⟨g',e',hzc⟩:=hRW.at hz
  cases e'
  obtain ⟨g',e',hsc⟩:=hRW.at hs
  cases e'
  refine rnT ?_
  refine CW.draw mixed (by kernel_rfl) ?_
  refine rnD ?_
  refine DW.ld rfl hzc ?_
  refine rnD ?_
  refine DW.ld rfl hsc ?_
  refine rnD ?_
  rw [beqL]
  refine DW.fi [1,2,3,4,10,32] rfl fun w3 b3=> ?_
  refine KW.then_ ?_
  refine CW.cond rfl (fun heq=> ?_) (fun hne=> ?_)
  ·refine rnT ?_
   refine rt1 rfl ⟨(b02.step hW).step b3,4,rfl,⟨fun h=>by omega,fun h=> ?_⟩⟩
   have hzs:z=s:=of_decide_eq_true heq
   subst hzs
   exact absurd (List.mem_of_getElem? (i:=j) (by rw [List.getElem?_take_of_lt (by omega)]; exact hz)) (heok.1 h).2.1
  ·refine rnT ?_
   refine KW.rd (j+1) ⟨by omega,hW.step b3,fun h=> ?_⟩
   rw [List.take_add_one,hz] at h
   rcases List.mem_append.1 h with h|h
   ·exact hno h
   ·simp at h
    subst h
    exact of_decide_eq_false hne rfl
 ·have hji:j=i:=by omega
  subst hji
  refine rnT ?_
  refine TW.ldS rfl (fun _ _ hv=>hBW.fld hv) ?_
  refine rnT ?_
  refine TW.cl rfl (numbers_c (v:=⟨.slice A1 N.cals.length c1,.slice A2 N.names.length c2,.slice A3 N.ops.length c3,.slice A4 N.offs.length c4,.slice A5 N.lines.length c5,.slice A6 N.classes.length c6⟩) hNW hf h1 h5 hi) ?_
  rintro y4 w4 ⟨d4,rfl⟩
  refine rnT ?_
  refine CW.cond rfl (fun hbad2=> ?_) (fun hgood2=> ?_)
  ·refine rnT ?_
   refine rt1 rfl ⟨(b02.step hW).step d4,1,rfl,⟨fun h=>by omega,fun h=> ?_⟩⟩
   rw [dec_pos (heok.1 h).2.2] at hbad2
   simp at hbad2
  ·refine rnT ?_
   refine rt1 rfl ⟨(b02.step hW).step d4,0,rfl,⟨fun _=>heok.2 ⟨hnm,hno,dec_iff.1 (by simpa using hgood2)⟩,fun _=>rfl⟩⟩
theorem faults_c (hN:NetAt w v N) (hf:FewN N):Gives Tryz.prog 93 #[.agg v.cells.toArray] w fun u w'=>Below w.heap.size w w'∧ ∃n,FRow w' w.heap.size u n∧n≤1000∧(n=0↔ConsOK keys11 N):=by
 have hform:=NetIn.form hN
 obtain ⟨vc,vn,vo,vf,vl,vk⟩:=v
 obtain ⟨⟨A1,c1,e1⟩,⟨A2,c2,e2⟩,⟨A3,c3,e3⟩,⟨A4,c4,e4⟩,⟨A5,c5,e5⟩,⟨A6,c6,e6⟩⟩:=id hform
 dsimp only at e1 e2 e3 e4 e5 e6
 subst e1 e2 e3 e4 e5 e6
 have qc:=hf.c
 have qn:=hf.n
 refine gv (f:=93) ?_
 refine rnT ?_
 refine TW.box rfl rfl rfl rfl ?_
 rintro g1 w1 f1
 refine rnT ?_
 have hB1:=f1.blk
 have hN1:=net_step hN f1.below
 have hb01:=f1.below.size
 refine TW.ld rfl (hB1.fld rfl) ?_
 refine rnT ?_
 refine TW.ld rfl (hB1.fld rfl) ?_
 refine rnT ?_
 refine CW.joinP (fun z:Value×Nat=> [(1,none,.pointer (some ⟨g1,0,none⟩)),(3,none,z.1)])
  (fun z W'=>Below w1.heap.size w1 W'∧FRow W' w1.heap.size z.1 z.2∧z.2≤1∧(z.2=0↔N.names.length=N.cals.length)) (fun hj=> ?_) (fun z W2 hJ=> ?_)
 ·skip
  refine CW.condP rfl (fun hne=> ?_) (fun heq=> ?_)
  ·refine rnT ?_
   refine TW.build [0,1,2] _ [.int .i64 1,.int .i64 (-1),.int .i64 1] rfl rfl rfl (Args.cons rfl ct (Args.cons rfl ct (Args.cons rfl ct Args.nil))) (by kernel_rfl) ?_
   refine TW.buildSlice 130 _ rfl rfl rfl eo82 (Args.cons rfl ct Args.nil) rfl rfl rfl rfl rfl ?_
   rintro g2 w2 f2
   refine TW.append [.int .i64 1,.int .i64 (-1),.int .i64 1] rfl rfl go82 rfl (OwnS.nil _ _ _) rfl rfl (fun j u hj=>⟨_,rfl,f2.blk.fld hj⟩) (fun u hu=>by simp at hu; rcases hu with rfl|rfl|rfl<;>rfl) (by omega) (by omega) ?_
   rintro fv' w3 hO3 hg3 hn3
   refine TW.v V.assign rfl ⟨ct,trivial⟩ (fun _=>trivial) ?_
   refine TW.nil (KW.pick [0,1,2,3] [(0,_,_),(1,_,_),(2,_,_),(3,_,_)] rfl (KW.then_ ?_))
   exact CW.pick [1,3] _ rfl (hj (fv',1) _ ⟨f2.below.grown hg3 f2.below.size (fun q hq=>by simp [Value.ownBlock] at hq),FRow.app (w:=w2) (fun g hg=>by simp [Value.ownBlock] at hg) (fun u hu=>by cases hu) (fun u hu=>by simp at hu; rcases hu with rfl|rfl|rfl<;>rfl) hO3 hn3 f2.below.size,Nat.le_refl _,⟨fun h=>absurd h (Nat.succ_ne_zero 0),fun h=>by omega⟩⟩)
  ·refine CW.skip (KW.then_ ?_)
   exact CW.pick [1,3] _ rfl (hj (.slice none 0 0,0) _ ⟨Below.refl _ _,FRow.nil _ _,Nat.zero_le _,⟨fun _=>by omega,fun _=>rfl⟩⟩)
 obtain ⟨fv,n⟩:=z
 obtain ⟨b2,hFR,hn1,hiff⟩:=hJ
 dsimp only at hFR hn1 hiff
 refine rnT ?_
 refine CW.pk [1,3,4] rfl ?_
 refine CW.lp [1] (fun z:Nat×Value×Nat=> [(3,none,z.2.1),(4,none,.int .i64 (z.1:Int))])
  (fun z W=>1≤z.1∧z.1≤6∧Below w1.heap.size w1 W∧FRow W w1.heap.size z.2.1 z.2.2∧z.2.2+101≤102*z.1∧(z.2.2=0↔N.names.length=N.cals.length∧ ∀k,1≤k→k<z.1→KindR N k)) (fun z=>6-z.1) (1,fv,n) ⟨Nat.le_refl _,by show 1≤6; decide,b2,hFR,by show n+101≤102*1; omega,⟨fun h=>⟨hiff.1 h,fun k h1 h2=>by omega⟩,fun h=>hiff.2 h.1⟩⟩ ?_
 rintro ⟨k,fv2,m⟩ W ⟨hk1,hk6,hBW,hF2,hm,hmi⟩
 dsimp only at hk1 hk6 hF2 hm hmi
 have hB1W:=hB1.next hBW
 have hNW:=net_step hN1 hBW
 refine rnT ?_
 refine CW.condP rfl (fun hlt=> ?_) (fun hge=> ?_)
 ·have hk5:k≤5:=by omega
  have hnl:=hf.names k
  refine rnT ?_
  refine TW.ldS rfl (fun _ _ hv=>hB1W.fld hv) ?_
  refine rnT ?_
  refine TW.cl rfl (names_c (v:=⟨.slice A1 N.cals.length c1,.slice A2 N.names.length c2,.slice A3 N.ops.length c3,.slice A4 N.offs.length c4,.slice A5 N.lines.length c5,.slice A6 N.classes.length c6⟩) hNW hf hk1 hk5) ?_
  rintro y5 w5 ⟨d5,hR⟩
  obtain ⟨A,cap,rfl⟩:=hR.form
  have hF5:=hF2.below d5
  have hB5:=hBW.step d5
  have hlim:limN k≤40:=by
   unfold limN
   split
   ·omega
   split
   ·omega
   split<;>omega
  have hown5: ∀g,fv2.ownBlock=some g→(Value.slice A (namesK N k).length cap).ownBlock≠some g:=fun g hg e=>by
   obtain ⟨zs,hO,_,_⟩:=hF2
   have h1:=hO.lt hg
   have h2:=hR.lb g e
   omega
  refine rnT ?_
  refine CW.lp [1,4,5] (fun z:Nat×Value×Nat=> [(3,none,z.2.1),(6,none,.int .i64 (z.1:Int))])
   (fun z W'=>z.1≤(namesK N k).length∧z.1≤limN k∧Below w1.heap.size w1 W'∧FRow W' w1.heap.size z.2.1 z.2.2∧StrRow W' W.heap.size (.slice A (namesK N k).length cap) (namesK N k)∧(∀g,z.2.1.ownBlock=some g→(Value.slice A (namesK N k).length cap).ownBlock≠some g)∧z.2.2≤m+z.1∧(z.2.2=0↔m=0∧ ∀j,j<z.1→eOK N k j)) (fun z=>(namesK N k).length-z.1) (0,fv2,m) ⟨Nat.zero_le _,Nat.zero_le _,hB5,hF5,hR,hown5,by show m≤m+0; omega,⟨fun h=>⟨h,fun j hj=>by omega⟩,fun h=>h.1⟩⟩ ?_
  rintro ⟨i,fv3,m2⟩ W3 ⟨hi,hil,hB3,⟨zs,hO,h2,h3⟩,hR3,hd3,hm3,hi3⟩
  dsimp only at hi hil hO h3 hd3 hm3 hi3
  have hB13:=hB1.next hB3
  have hN3:=net_step hN1 hB3
  refine rnT ?_
  refine TW.callF (cap:= []) rfl rfl en128 rfl ct (Args.cons rfl id Args.nil) (fun _=>limit_c (k:=k)) ?_
  rintro w6 d6
  refine rnT ?_
  refine CW.pk [1,3,4,5,6,35] rfl ?_
  have hO:=hO.below d6
  have hBX:=hB3.step d6
  have hR6:=hR3.below d6
  have hB16:=hB13.next d6
  have hN6:=net_step hN3 d6
  refine CW.cond rfl (fun hlt2=> ?_) (fun hge2=> ?_)
  ·have hlt3:i<(namesK N k).length∧i<limN k:=by simp at hlt2; omega
   refine rnT ?_
   refine TW.ldS rfl (fun _ _ hv=>hB16.fld hv) ?_
   refine rnT ?_
   refine TW.cl rfl (errno_c (v:=⟨.slice A1 N.cals.length c1,.slice A2 N.names.length c2,.slice A3 N.ops.length c3,.slice A4 N.offs.length c4,.slice A5 N.lines.length c5,.slice A6 N.classes.length c6⟩) hN6 hf hk1 hk5 hR6 hlt3.1) ?_
   rintro y7 w7 ⟨d7,e,rfl,he⟩
   have hO:=hO.below d7
   have hBX:=hBX.step d7
   have hR7:=hR6.below d7
   refine rnT ?_
   refine CW.condP rfl (fun hne=> ?_) (fun heq=> ?_)
   ·have hne':e≠0:=by simpa using hne
    refine rnT ?_
    refine TW.build [0,1,2] _ [.int .i64 (k:Int),.int .i64 (i:Int),.int .i64 e] rfl rfl rfl (Args.cons rfl ct (Args.cons rfl ct (Args.cons rfl ct Args.nil))) (by kernel_rfl) ?_
    refine TW.buildSlice 130 _ rfl rfl rfl eo82 (Args.cons rfl ct Args.nil) rfl rfl rfl rfl rfl ?_
    rintro g8 w8 f8
    refine TW.append [.int .i64 (k:Int),.int .i64 (i:Int),.int .i64 e] rfl rfl go82 rfl (hO.below f8.below) rfl rfl (fun j u hj=>⟨_,rfl,f8.blk.fld hj⟩) (fun u hu=>by simp at hu; rcases hu with rfl|rfl|rfl<;>rfl) (by omega) (by omega) ?_
    rintro fv' w9 hO9 hg9 hn9
    refine rnT ?_
    have hB8:=hBX.step f8.below
    have hB9:=hB8.grown hg9 hB8.size h3
    have hF9:FRow w9 w1.heap.size fv' (m2+1):=FRow.app (w:=w8) h3 h2 (fun u hu=>by simp at hu; rcases hu with rfl|rfl|rfl<;>rfl) hO9 hn9 hB8.size
    have hR8:=hR7.below f8.below
    have hR9:StrRow w9 W.heap.size (.slice A (namesK N k).length cap) (namesK N k):=⟨hR8.own.kept fun q hq=>hg9.block q (hR8.own.lt hq) (fun e=>hd3 q e.symm hq),hR8.lb⟩
    refine KW.rd (i+1,fv',m2+1) ⟨by show i+1≤_; omega,by show i+1≤_; omega,hB9,hF9,hR9,fun g hg e=> ?_,by show m2+1≤m+(i+1); omega,⟨fun h=>absurd h (Nat.succ_ne_zero m2),fun h=>absurd (he.2 (h.2 i (by show i<i+1; omega))) hne'⟩⟩
    rcases hn9 with h|h
    ·exact hd3 g (by rw [←h]; exact hg) e
    ·rw [h] at hg
     cases hg
     exact absurd (hR8.own.lt e) (Nat.lt_irrefl _)
   ·have heq':e=0:=by simpa using heq
    refine rnT ?_
    refine KW.rd (i+1,fv3,m2) ⟨by show i+1≤_; omega,by show i+1≤_; omega,hBX,⟨zs,hO,h2,h3⟩,hR7,hd3,by show m2≤m+(i+1); omega,?_⟩
    show m2=0↔m=0∧ ∀j,j<i+1→eOK N k j
    rw [hi3]
    refine ⟨fun h=>⟨h.1,fun j hj=> ?_⟩,fun h=>⟨h.1,fun j hj=>h.2 j (by omega)⟩⟩
    rcases Nat.lt_or_ge j i with h'|h'
    ·exact h.2 j h'
    ·have:j=i:=by omega
     subst this
     exact he.1 heq'
  ·have hge3:i=(namesK N k).length∨i=limN k:=by
    simp only [Bool.and_eq_false_iff,decide_eq_false_iff_not] at hge2
    omega
   refine rnT ?_
   refine TW.cl rfl (limit_c (k:=k)) ?_
   rintro y7 w7 ⟨d7,rfl⟩
   have hO:=hO.below d7
   have hBX:=hBX.step d7
   refine rnT ?_
   refine CW.condP rfl (fun hgt=> ?_) (fun hle=> ?_)
   ·refine rnT ?_
    dsimp only at hgt
    refine TW.cl rfl (limit_c (k:=k)) ?_
    rintro y7b w7b ⟨d7b,rfl⟩
    have hO:=hO.below d7b
    have hBX:=hBX.step d7b
    refine TW.build [0,1,2] _ [.int .i64 (k:Int),.int .i64 (limN k:Int),.int .i64 2] rfl rfl rfl (Args.cons rfl ct (Args.cons rfl ct (Args.cons rfl ct Args.nil))) (by kernel_rfl) ?_
    refine TW.buildSlice 130 _ rfl rfl rfl eo82 (Args.cons rfl ct Args.nil) rfl rfl rfl rfl rfl ?_
    rintro g8 w8 f8
    refine TW.append [.int .i64 (k:Int),.int .i64 (limN k:Int),.int .i64 2] rfl rfl go82 rfl (hO.below f8.below) rfl rfl (fun j u hj=>⟨_,rfl,f8.blk.fld hj⟩) (fun u hu=>by simp at hu; rcases hu with rfl|rfl|rfl<;>rfl) (by omega) (by omega) ?_
    rintro fv' w9 hO9 hg9 hn9
    refine rnT ?_
    have hB8:=hBX.step f8.below
    have hB9:=hB8.grown hg9 hB8.size h3
    have hF9:FRow w9 w1.heap.size fv' (m2+1):=FRow.app (w:=w8) h3 h2 (fun u hu=>by simp at hu; rcases hu with rfl|rfl|rfl<;>rfl) hO9 hn9 hB8.size
    refine KW.rd (k+1,fv',m2+1) ⟨by show 1≤k+1; omega,by show k+1≤6; omega,hB9,hF9,by show m2+1+101≤102*(k+1); omega,⟨fun h=>absurd h (Nat.succ_ne_zero m2),fun h=>absurd (h.2 k hk1 (by show k<k+1; omega)).1 (by omega)⟩⟩
   ·refine rnT ?_
    dsimp only at hle
    refine KW.rd (k+1,fv3,m2) ⟨by show 1≤k+1; omega,by show k+1≤6; omega,hBX,⟨zs,hO,h2,h3⟩,by show m2+101≤102*(k+1); omega,?_⟩
    show m2=0↔N.names.length=N.cals.length∧ ∀j,1≤j→j<k+1→KindR N j
    rw [hi3,hmi]
    constructor
    ·rintro ⟨⟨h1,h2⟩,h3⟩
     refine ⟨h1,fun j hj1 hj=> ?_⟩
     rcases Nat.lt_or_ge j k with h'|h'
     ·exact h2 j hj1 h'
     ·have:j=k:=by omega
      subst this
      exact ⟨by omega,fun q hq=>h3 q (by omega)⟩
    ·rintro ⟨h1,h2⟩
     exact ⟨⟨h1,fun j hj1 hj=>h2 j hj1 (by omega)⟩,fun j hj=>(h2 k hk1 (by omega)).2 j (by omega)⟩
 ·have hk:k=6:=by omega
  subst hk
  refine rnT ?_
  refine rt1 rfl ⟨f1.below.step hBW,m,?_,by omega,?_⟩
  ·obtain ⟨zs,hO,h2,h3⟩:=hF2
   exact ⟨zs,hO,h2,fun g hg=>Nat.le_trans hb01 (h3 g hg)⟩
  ·rw [hmi,cons_iff]
   exact ⟨fun h=>⟨h.1,fun j h1 h5=>h.2 j h1 (by omega)⟩,fun h=>⟨h.1,fun j h1 h5=>h.2 j h1 (by omega)⟩⟩
theorem consist_c (hN:NetAt w v N) (hf:FewN N):Gives Tryz.prog 130 #[.agg v.cells.toArray] w fun u w'=>Below w.heap.size w w'∧u= .bool (dec (ConsOK keys11 N)):=by
 have hform:=NetIn.form hN
 obtain ⟨vc,vn,vo,vf,vl,vk⟩:=v
 obtain ⟨⟨A1,c1,e1⟩,⟨A2,c2,e2⟩,⟨A3,c3,e3⟩,⟨A4,c4,e4⟩,⟨A5,c5,e5⟩,⟨A6,c6,e6⟩⟩:=id hform
 dsimp only at e1 e2 e3 e4 e5 e6
 subst e1 e2 e3 e4 e5 e6
 refine gv (f:=130) ?_
 refine rnT ?_
 refine TW.box rfl rfl rfl rfl ?_
 rintro g1 w1 f1
 refine rnT ?_
 have hB1:=f1.blk
 have hN1:=net_step hN f1.below
 refine TW.ldS rfl (fun _ _ hv=>hB1.fld hv) ?_
 refine TW.cl rfl (faults_c (v:=⟨.slice A1 N.cals.length c1,.slice A2 N.names.length c2,.slice A3 N.ops.length c3,.slice A4 N.offs.length c4,.slice A5 N.lines.length c5,.slice A6 N.classes.length c6⟩) hN1 hf) ?_
 rintro y2 w2 ⟨d2,n,hR,hn,hiff⟩
 obtain ⟨Y,yc,rfl⟩:=FRow.form hR
 refine rnT ?_
 refine rt1 rfl ⟨f1.below.step d2,?_⟩
 by_cases hc:ConsOK keys11 N
 ·rw [dec_pos hc]
  simp [hiff.2 hc]
 ·rw [dec_neg hc]
  have:n≠0:=fun e=>hc (hiff.1 e)
  simp
  omega
theorem linesB_take {L:List Ln} {l:Ln} (h:L[i]?=some l):linesB r (L.take (i+1))=rlxB (linesB r (L.take i)) l:=by
 unfold linesB
 rw [List.take_add_one,h,List.foldl_append]
 rfl
def mfill (n b:Nat):List Int:=(List.range n).map fun i=>if i<b then -1 else 0
theorem mfill_len (n b:Nat):(mfill n b).length=n:=by simp [mfill]
theorem mfill_zero (n:Nat):mfill n 0=List.replicate n 0:=by
 apply List.ext_getElem?
 intro i
 simp [mfill,List.getElem?_replicate]
 split
 ·rename_i h; simp [h]
 ·rename_i h; rw [List.getElem?_eq_none (by simpa using h)]; rfl
theorem mfill_all (n:Nat):mfill n n=List.replicate n (-1):=by
 apply List.ext_getElem?
 intro i
 simp only [mfill,List.getElem?_replicate,List.getElem?_map]
 split
 ·rename_i h; simp [h]
 ·rename_i h; rw [List.getElem?_eq_none (by simpa using h)]; rfl
theorem mfill_succ {b:Nat} (hb:b<n):(mfill n b).set b (-1)=mfill n (b+1):=by
 apply List.ext_getElem?
 intro i
 rw [List.getElem?_set,mfill_len]
 by_cases h:b=i
 ·subst h
  simp [mfill,hb]
 ·rw [if_neg h]
  unfold mfill
  rw [List.getElem?_map,List.getElem?_map]
  rcases Nat.lt_or_ge i n with hi|hi
  ·rw [List.getElem?_range hi]
   simp only [Option.map_some]
   congr 1
   by_cases h':i<b
   ·rw [if_pos h',if_pos (by omega)]
   ·rw [if_neg h',if_neg (by omega)]
  ·rw [List.getElem?_eq_none (by simpa using hi)]; rfl
structure RowW (w0 W:World) (g n:Nat) (r:List Int):Prop where
 own:OwnS W 3 1 (.slice (some ⟨g,0,none⟩) n n) n (r.map (Value.int .i64))
 len:r.length=n
 but:But g w0 W
theorem RowW.step {w0 W W':World} {g n:Nat} {r:List Int} (h:RowW w0 W g n r) (hb:Below W.heap.size W W'):RowW w0 W' g n r:=⟨h.own.below hb,h.len,h.but.step hb⟩
theorem RowW.cell {w0 W:World} {g n i:Nat} {r:List Int} (h:RowW w0 W g n r) (hi:i<n):W.cell? (Addr.add ⟨g,0,none⟩ ((i:Int).toNat*1))=some (.int .i64 (gB r i)):=by
 rw [Nat.mul_one,Int.toNat_natCast]
 refine h.own.cell1 ?_
 rw [List.getElem?_map,List.getElem?_eq_getElem (by have:=h.len; omega)]
 unfold gB
 rw [List.getD_eq_getElem?_getD,List.getElem?_eq_getElem (by have:=h.len; omega)]
 rfl
theorem RowW.put {W':World} {x:Int} (h:RowW w0 W g n r) (o:OwnS W' 3 1 (.slice (some ⟨g,0,none⟩) n n) n ((r.map (Value.int .i64)).set ((i:Int).toNat*1) (.int .i64 x))) (hb:But g W W'):RowW w0 W' g n (r.set i x) :=
 ⟨by
  rw [Nat.mul_one,Int.toNat_natCast] at o
  rw [List.map_set]
  exact o,by rw [List.length_set]; exact h.len,h.but.trans hb⟩
theorem RowW.cellI {i:Int} (h:RowW w0 W g n r) (h0:0≤i) (hi:i<n):W.cell? (Addr.add ⟨g,0,none⟩ (i.toNat*1))=some (.int .i64 (gB r i.toNat)):=by
 obtain ⟨k,rfl⟩:=Int.eq_ofNat_of_zero_le h0
 exact h.cell (by omega)
theorem RowW.putN {W':World} {j:Nat} {x:Int} (h:RowW w0 W g n r) (o:OwnS W' 3 1 (.slice (some ⟨g,0,none⟩) n n) n ((r.map (Value.int .i64)).set (j*1) (.int .i64 x))) (hb:But g W W'):RowW w0 W' g n (r.set j x) :=
 ⟨by
  rw [Nat.mul_one] at o
  rw [List.map_set]
  exact o,by rw [List.length_set]; exact h.len,h.but.trans hb⟩
theorem rb_at {L:List Ln} {a:Nat} (hL:LnOK n L) (ha:a<n) (hn:n≤12) (hl:L.length≤40) (hk:k≤n):RB L n a 3000000 (linesB (rndsB L (startB n a) k) (L.take i)):=by
 obtain ⟨h,_⟩:=RB.lines hL (L.take i) _ _ (fun l hl=>List.mem_of_mem_take hl) (by omega) (RB.rnds hL ha k)
 have h1:k*L.length≤12*40:=Nat.mul_le_mul (by omega) hl
 have h2:(L.take i).length≤L.length:=by rw [List.length_take]; omega
 exact ⟨h.len,h.own,fun b=>⟨(h.rng b).1,Int.le_trans (h.rng b).2 (by omega)⟩,h.sound⟩
theorem rdist_c (hN:NetAt w v N) (hf:FewN N) (hc:ConsOK keys11 N):Gives Tryz.prog 94 #[.agg v.cells.toArray] w fun u w'=>Below w.heap.size w w'∧SL (sliceT intT) (fun k=>w.heap.size≤k∧k<w'.heap.size) w' u ((List.range N.offs.length).map fun a=>rowB (lnOf N) N.offs.length a):=by
 have hform:=NetIn.form hN
 obtain ⟨vc,vn,vo,vf,vl,vk⟩:=v
 obtain ⟨⟨A1,c1,e1⟩,⟨A2,c2,e2⟩,⟨A3,c3,e3⟩,⟨A4,c4,e4⟩,⟨A5,c5,e5⟩,⟨A6,c6,e6⟩⟩:=id hform
 dsimp only at e1 e2 e3 e4 e5 e6
 subst e1 e2 e3 e4 e5 e6
 obtain ⟨hL,hn12,hl40⟩:=hc.ln
 have hll:(lnOf N).length=N.lines.length:=by unfold lnOf; rw [List.length_map]
 refine gv (f:=94) ?_
 refine rnT ?_
 refine TW.box rfl rfl rfl rfl ?_
 rintro g1 w1 f1
 refine rnT ?_
 have hB1:=f1.blk
 have hN1:=net_step hN f1.below
 have hb01:=f1.below.size
 refine TW.ldS rfl (fun _ _ hv=>hB1.fld hv) ?_
 refine TW.cl rfl (consist_c (v:=⟨.slice A1 N.cals.length c1,.slice A2 N.names.length c2,.slice A3 N.ops.length c3,.slice A4 N.offs.length c4,.slice A5 N.lines.length c5,.slice A6 N.classes.length c6⟩) hN1 hf) ?_
 rintro y2 w2 ⟨b2,rfl⟩
 rw [dec_pos hc]
 refine rnT ?_
 refine CW.cond rfl (fun hbad=> ?_) (fun hgood=> ?_)
 ·exact absurd hbad (by simp)
 have hB2:=hB1.next b2
 have hN2:=net_step hN1 b2
 have b02:=f1.below.step b2
 refine rnT ?_
 refine CW.lp [1] (fun x:Nat×Value×List (Value×List Int)=> [(3,none,x.2.1),(4,none,.int .i64 (x.1:Int))])
  (fun x W=>x.1≤N.offs.length∧Below w2.heap.size w2 W∧Tab W w2.heap.size x.2.1 x.2.2∧x.2.2.length=x.1∧x.2.2.map (·.2)=(List.range x.1).map fun a=>rowB (lnOf N) N.offs.length a) (fun x=>N.offs.length-x.1) (0,.slice none 0 0,[]) ⟨Nat.zero_le _,Below.refl _ _,⟨OwnS.nil _ _ _,(fun g hg=>by simp [Value.ownBlock] at hg),(fun p hp=>by cases hp),List.Pairwise.nil⟩,rfl,rfl⟩ ?_
 rintro ⟨a,tv,rs⟩ W ⟨ha,hW,hT,hrl,hrs⟩
 dsimp only at ha hT hrl hrs
 have hBW:=hB2.next hW
 have hbs:=hW.size
 obtain ⟨TA,tcap,htv,_⟩:=hT.own.form
 subst htv
 refine rnT ?_
 refine TW.ld rfl (hBW.fld rfl) ?_
 refine rnT ?_
 refine CW.pk [1,3,4,17] rfl ?_
 refine CW.condP rfl (fun hlt=> ?_) (fun hge=> ?_)
 ·have haN:a<N.offs.length:=by omega
  refine rnT ?_
  refine TW.ld rfl (hBW.fld rfl) ?_
  refine rnT ?_
  refine TW.makeSlice rfl rfl (zero1_of go37 ze3 rfl) rfl rfl (by omega) (by omega) ?_
  rintro gr wr fr
  refine rnT ?_
  have hatr:=fr.at_
  have hR0:RowW wr wr gr N.offs.length (mfill N.offs.length 0):=⟨by
   rw [mfill_zero,List.map_replicate]
   exact OwnS.of_blk fr.blk (by simp) (by omega),mfill_len _ _,But.of_below (Below.refl _ _)⟩
  refine CW.lp [1,3,4,5] (fun b:Nat=> [(6,none,.int .i64 (b:Int))])
   (fun b W'=>b≤N.offs.length∧RowW wr W' gr N.offs.length (mfill N.offs.length b)) (fun b=>N.offs.length-b) 0 ⟨Nat.zero_le _,hR0⟩ ?_
  rintro b W1 ⟨hb,hR1⟩
  refine rnT ?_
  refine CW.condP rfl (fun hltb=> ?_) (fun hgeb=> ?_)
  ·refine rnT ?_
   refine TW.storeRow1 rfl sz3 rfl rfl hR1.own (by rw [List.length_map,mfill_len]; omega) rfl ?_
   rintro W2 o2 hbut2 hsz2
   refine rnT ?_
   have hR2:=hR1.put o2 hbut2
   rw [mfill_succ (by omega)] at hR2
   refine KW.rd (b+1) ⟨by omega,hR2⟩
  have hbe:b=N.offs.length:=by omega
  subst hbe
  rw [mfill_all] at hR1
  refine rnT ?_
  refine TW.storeRow1 rfl sz3 rfl rfl hR1.own (by simp; omega) rfl ?_
  rintro W2 o2 hbut2 hsz2
  refine rnT ?_
  have hR2:RowW wr W2 gr N.offs.length (startB N.offs.length a):=hR1.put o2 hbut2
  have hTr:=hT.step fr.below
  have hg1r:g1<gr:=by have:=hB2.lt; omega
  have hkeep: ∀ {W':World},But gr wr W'→ ∀k,k<w2.heap.size→W'.heap[k]?=w2.heap[k]?:=fun hb k hk=>((hb.block k (by have:=fr.below.size; omega) (fun e=>by cases e; omega)).trans (fr.below.block k (by omega))).trans (hW.block k hk)
  refine CW.lp [1,3,4,5] (fun k:Nat=> [(7,none,.int .i64 (k:Int))])
   (fun k W'=>k≤N.offs.length∧RowW wr W' gr N.offs.length (rndsB (lnOf N) (startB N.offs.length a) k)) (fun k=>N.offs.length-k) 0 ⟨Nat.zero_le _,hR2⟩ ?_
  rintro k W3 ⟨hk,hR3⟩
  refine rnT ?_
  refine CW.condP rfl (fun hltk=> ?_) (fun hgek=> ?_)
  ·refine rnT ?_
   refine CW.lp [1,3,4,5,7] (fun i:Nat=> [(8,none,.int .i64 (i:Int))])
    (fun i W'=>i≤N.lines.length∧RowW wr W' gr N.offs.length (linesB (rndsB (lnOf N) (startB N.offs.length a) k) ((lnOf N).take i))) (fun i=>N.lines.length-i) 0 ⟨Nat.zero_le _,hR3⟩ ?_
   rintro i W4 ⟨hi,hR4⟩
   have hB4:Blk W4 g1 29 _:=(hkeep hR4.but g1 hB2.lt).trans hB2
   have hlW:=hN2.l.mono (Kept.of_blocks fun k hk _=>hkeep hR4.but k hk)
   refine rnT ?_
   refine TW.ld rfl (hB4.fld rfl) ?_
   refine rnT ?_
   refine CW.pk [1,3,4,5,7,8,46] rfl ?_
   refine CW.condP rfl (fun hlti=> ?_) (fun hgei=> ?_)
   ·obtain ⟨l,hl,hlm⟩:=getx (l:=N.lines) (k:=i) (by omega)
    obtain ⟨ad,rfl⟩:=hlW.addr (by omega)
    obtain ⟨ad',cs,e9,hF9,hrep9,hc9⟩:=hlW.at hl
    cases e9
    obtain ⟨rfl,_⟩:=hrep9
    have hgl:=hc.lines.good l hlm
    have q1:=hgl.f1
    have q2:=hgl.f2
    have q3:=hgl.t1
    have q4:=hgl.t2
    have q5:=hgl.r1
    have q6:=hgl.r2
    have hLi:(lnOf N)[i]?=some (l.frm.toNat,l.to.toNat,l.trav):=by unfold lnOf; rw [List.getElem?_map,hl]; rfl
    have hrb:=rb_at (i:=i) hL haN hn12 hl40 hk
    obtain ⟨r,hr⟩: ∃r,r=linesB (rndsB (lnOf N) (startB N.offs.length a) k) ((lnOf N).take i):=⟨_,rfl⟩
    have hrn:=linesB_take (r:=rndsB (lnOf N) (startB N.offs.length a) k) hLi
    rw [←hr] at hR4 hrb hrn
    have hx:=hrb.rng l.frm.toNat
    have hy:=hrb.rng l.to.toNat
    refine rnT ?_
    refine TW.ld rfl (hB4.fld rfl) ?_
    refine rnT ?_
    refine TW.ldS rfl (hc9) ?_
    refine TW.newVar rfl zc36 rfl sz36 rfl rfl ?_
    rintro g9 w9 f9
    refine rnT ?_
    refine CW.draw mixed (by kernel_rfl) ?_
    refine rnD ?_
    have hR9:=hR4.step f9.below
    have hB9:Blk w9 g9 36 (liV l):=f9.blk
    have hxc:=hR9.cellI q1 q2
    have hyc:=hR9.cellI q3 q4
    refine DW.ld rfl (hB9.fld rfl) ?_
    refine rnD ?_
    refine DW.ld rfl hxc ?_
    refine rnD ?_
    refine DW.ld rfl (hB9.fld rfl) ?_
    refine rnD ?_
    refine DW.ld rfl hyc ?_
    refine rnD ?_
    refine DW.ld rfl (hB9.fld rfl) ?_
    refine rnD ?_
    refine DW.ld rfl hyc ?_
    refine rnD ?_
    refine DW.ld rfl (hB9.fld rfl) ?_
    refine rnD ?_
    refine DW.ld rfl hxc ?_
    refine rnD ?_
    refine DW.ld rfl (hB9.fld rfl) ?_
    refine rnD ?_
    refine DW.fi [1,3,4,5,7,8,9,83] rfl fun w10 b10=> ?_
    refine KW.then_ ?_
    have hRA:=hR9.step b10
    have hBA:=hB9.next b10
    refine CW.cond rfl (fun hyes=> ?_) (fun hno=> ?_)
    ·skip
     refine CW.drawR mixed fun W5 h5=> ?_
     refine RW.draw .weak 12 (by kernel_rfl) (by kernel_rfl) rfl rfl h5 ?_
     refine rnD ?_
     refine DW.ld rfl (hBA.fld rfl) ?_
     refine rnD ?_
     refine DW.ld rfl (hBA.fld rfl) ?_
     refine rnD ?_
     refine DW.ld rfl (hRA.cellI q1 q2) ?_
     refine rnD ?_
     refine DW.ld rfl (hBA.fld rfl) ?_
     refine rnD ?_
     refine DW.nil (DW.fin [1,3,4,5,7,8,9,94,95] [(1,_,_),(3,_,_),(4,_,_),(5,_,_),(7,_,_),(8,_,_),(9,_,_),(94,_,_),(95,_,_)] rfl (fun w11 b11=>KW.rk' ?_))
     refine RW.one (by kernel_rfl) (by kernel_rfl) rfl ?_
     have hRB:=hRA.step b11
     refine TW.storeRow1 rfl sz3 rfl rfl hRB.own (by rw [List.length_map,hRB.len]; omega) rfl ?_
     rintro w12 o12 hbut12 hsz12
     refine TW.nil (KW.pick [1,3,4,5,7,8,9] [(1,_,_),(3,_,_),(4,_,_),(5,_,_),(7,_,_),(8,_,_),(9,_,_)] rfl (KW.rk ?_))
     refine RW.end rfl (KW.pick [1,3,4,5,7,8,9] [(1,_,_),(3,_,_),(4,_,_),(5,_,_),(7,_,_),(8,_,_),(9,_,_)] rfl (KW.blockN (KW.then_ ?_)))
     refine rnT ?_
     have hRC:=hRB.putN o12 hbut12
     have he:r.set l.to.toNat (gB r l.frm.toNat+l.trav)=rlxB r (l.frm.toNat,l.to.toNat,l.trav):=by
      unfold rlxB
      rw [if_pos (by simpa using hyes)]
     rw [he,←hrn] at hRC
     refine KW.rd (i+1) ⟨by omega,hRC⟩
    ·have he:r=rlxB r (l.frm.toNat,l.to.toNat,l.trav):=by
      unfold rlxB
      rw [if_neg (by simpa using hno)]
     rw [he,←hrn] at hRA
     refine rnT ?_
     refine KW.rd (i+1) ⟨by omega,hRA⟩
   ·have hie:i=N.lines.length:=by omega
    subst hie
    rw [←hll,List.take_length] at hR4
    refine rnT ?_
    refine KW.rd (k+1) ⟨by omega,hR4⟩
  have hke:k=N.offs.length:=by omega
  subst hke
  have hRF:RowW wr W3 gr N.offs.length (rowB (lnOf N) N.offs.length a):=hR3
  have hrow:=rowB_ok hL haN
  have hTF:Tab W3 w2.heap.size (.slice TA rs.length tcap) rs:=hTr.but hRF.but (fun e=>absurd (hT.own.lt e) (by omega)) (fun p hp e=>absurd ((hT.row p hp).1.lt e) (by omega))
  refine rnT ?_
  refine TW.buildSlice 37 _ rfl rfl rfl eo30 (Args.cons rfl ct Args.nil) rfl rfl rfl rfl rfl ?_
  rintro g26 w26 f26
  have hT26:=hTF.step f26.below
  have hR26:=hRF.step f26.below
  refine TW.append [.slice (some ⟨gr,0,none⟩) N.offs.length N.offs.length] rfl rfl go30 rfl hT26.own rfl rfl (fun j v hj=>⟨⟨g26,0,none⟩,rfl,f26.blk.fld hj⟩) (fun v hv=>by simp at hv; subst hv; rfl) (by omega) (by omega) ?_
  rintro tv' w27 o27 hg27 hn27
  refine rnT ?_
  have hl9:(rowB (lnOf N) N.offs.length a).length=N.offs.length:=hrow.1
  have hBw:Below w2.heap.size w2 w26:=((hW.step fr.below).grown hRF.but (by have:=fr.below.size; omega) (fun q hq=>by cases hq; omega)).step f26.below
  have hT27:Tab w27 w2.heap.size tv' (rs++ [(.slice (some ⟨gr,0,none⟩) N.offs.length N.offs.length,rowB (lnOf N) N.offs.length a)]):=by
   refine hT26.app o27 hg27 hn27 hBw.size (by rw [hl9]; exact hR26.own) (fun x hx=> ?_) (fun g hg=> ?_) (fun p hp g hg e=> ?_)
   ·obtain ⟨j,hj⟩:=List.mem_iff_getElem?.1 hx
    have h9:=hrow.2.1 j
    have h8:N.offs.length*(lnOf N).length≤12*40:=Nat.mul_le_mul hn12 hl40
    unfold gB at h9
    rw [List.getD_eq_getElem?_getD,hj] at h9
    simp only [Option.getD_some] at h9
    exact ⟨by omega,by omega⟩
   ·cases hg
    exact ⟨by show w2.heap.size≤gr; omega,fun e=>by
     have h9:gr<W.heap.size:=hT.own.lt e
     omega⟩
   ·cases e
    have h9:gr<W.heap.size:=(hT.row p hp).1.lt hg
    omega
  refine KW.rd (a+1,tv',rs++ [(.slice (some ⟨gr,0,none⟩) N.offs.length N.offs.length,rowB (lnOf N) N.offs.length a)]) ⟨by show a+1≤_; omega,hBw.grown hg27 hBw.size hT.lb,hT27,by simp [hrl],?_⟩
  show List.map Prod.snd (rs++ [_])=_
  rw [List.map_append,hrs,List.range_succ,List.map_append]
  rfl
 ·have hae:a=N.offs.length:=by omega
  subst hae
  have hsd:=hT.sdF (by omega) (fun p hp=>by
   have:p.2∈rs.map (·.2):=List.mem_map_of_mem hp
   rw [hrs] at this
   obtain ⟨i,hi,e⟩:=List.mem_map.1 this
   rw [←e,(rowB_ok hL (List.mem_range.1 hi)).1]
   omega)
  rw [hrs] at hsd
  refine rnT ?_
  refine rt1 rfl ⟨b02.step hW,hsd.wider fun k hk=>⟨Nat.le_trans b02.size hk.1,hk.2⟩⟩
theorem rcheck_c (hN:NetAt w v N) (hf:FewN N):Gives Tryz.prog 43 #[.agg v.cells.toArray] w fun u w'=>Below w.heap.size w w'∧ ∃A n c,u= .slice A n c∧(n=0↔SoundOK keys11 N):=by
 have hform:=NetIn.form hN
 obtain ⟨vc,vn,vo,vf,vl,vk⟩:=v
 obtain ⟨⟨A1,c1,e1⟩,⟨A2,c2,e2⟩,⟨A3,c3,e3⟩,⟨A4,c4,e4⟩,⟨A5,c5,e5⟩,⟨A6,c6,e6⟩⟩:=id hform
 dsimp only at e1 e2 e3 e4 e5 e6
 subst e1 e2 e3 e4 e5 e6
 refine gv (f:=43) ?_
 refine rnT ?_
 refine TW.box rfl rfl rfl rfl ?_
 rintro g1 w1 f1
 refine rnT ?_
 have hB1:=f1.blk
 have hN1:=net_step hN f1.below
 refine TW.ldS rfl (fun _ _ hv=>hB1.fld hv) ?_
 refine TW.cl rfl (faults_c (v:=⟨.slice A1 N.cals.length c1,.slice A2 N.names.length c2,.slice A3 N.ops.length c3,.slice A4 N.offs.length c4,.slice A5 N.lines.length c5,.slice A6 N.classes.length c6⟩) hN1 hf) ?_
 rintro y2 w2 ⟨d2,n,hR,hn,hiff⟩
 obtain ⟨Y,yc,rfl⟩:=FRow.form hR
 have b2:=f1.below.step d2
 have hB2:=hB1.next d2
 refine rnT ?_
 refine CW.condP rfl (fun hbad=> ?_) (fun hgood=> ?_)
 ·refine rnT ?_
  refine rt1 rfl ⟨b2,_,_,_,rfl,⟨fun h=>by omega,fun h=>hiff.2 h.cons⟩⟩
 have hcons:ConsOK keys11 N:=hiff.1 (by omega)
 obtain ⟨hL,hn12,hl40⟩:=hcons.ln
 have hn0:n=0:=by omega
 subst hn0
 refine rnT ?_
 refine TW.ldS rfl (fun _ _ hv=>hB2.fld hv) ?_
 refine TW.cl rfl (rdist_c (v:=⟨.slice A1 N.cals.length c1,.slice A2 N.names.length c2,.slice A3 N.ops.length c3,.slice A4 N.offs.length c4,.slice A5 N.lines.length c5,.slice A6 N.classes.length c6⟩) (net_step hN1 d2) hf hcons) ?_
 rintro y3 w3 ⟨d3,hd⟩
 obtain ⟨D,hD⟩: ∃D,D=(List.range N.offs.length).map fun a=>rowB (lnOf N) N.offs.length a:=⟨_,rfl⟩
 rw [←hD] at hd
 have hDl:D.length=N.offs.length:=by rw [hD]; simp
 have hDr: ∀a,a<N.offs.length→D[a]?=some (rowB (lnOf N) N.offs.length a):=fun a ha=>by rw [hD,List.getElem?_map,List.getElem?_range ha]; rfl
 obtain ⟨DA,dcap,rfl,_⟩:=hd.form
 have hR3:=hR.below d3
 have b3:=b2.step d3
 have b13:Below w1.heap.size w1 w3:=d2.step d3
 refine rnT ?_
 refine CW.lp [4] (fun z:Nat×Value×Nat=> [(3,none,z.2.1),(5,none,.int .i64 (z.1:Int))])
  (fun z W=>z.1≤N.offs.length∧Below w1.heap.size w1 W∧w3.heap.size≤W.heap.size∧SL (sliceT intT) (fun k=>w2.heap.size≤k∧k<w3.heap.size) W (.slice DA D.length dcap) D∧FRow W w1.heap.size z.2.1 z.2.2∧(∀g,z.2.1.ownBlock=some g→g<w2.heap.size∨w3.heap.size≤g)∧z.2.2≤z.1∧(z.2.2=0↔ ∀a b,b<z.1→a<N.offs.length→ReachL (lnOf N) a b)) (fun z=>N.offs.length-z.1) (0,.slice Y 0 yc,0) ⟨Nat.zero_le _,b13,Nat.le_refl _,hd,hR3,fun g hg=> .inl (by obtain ⟨zs,hO,_⟩:=hR; exact hO.lt hg),Nat.le_refl _,⟨fun _ a b hb=>by omega,fun _=>rfl⟩⟩ ?_
 rintro ⟨b,fv,n⟩ W ⟨hb,hW,hWs,hdW,⟨zs,hO,h2,h3⟩,hdj,hnb,hre⟩
 dsimp only at hb hO h3 hdj hnb hre
 refine rnT ?_
 refine CW.pk [3,4,5,19] rfl ?_
 refine CW.condP rfl (fun hlt=> ?_) (fun hge=> ?_)
 ·have hbN:b<N.offs.length:=by omega
  refine rnT ?_
  refine CW.lp [3,4,5] (fun z:Nat×Bool=> [(6,none,.bool z.2),(7,none,.int .i64 (z.1:Int))])
   (fun z W'=>z.1≤N.offs.length∧W'=W∧(z.2=false↔ ∀i,i<z.1→ReachL (lnOf N) i b)) (fun z=>N.offs.length-z.1) (0,false) ⟨Nat.zero_le _,rfl,⟨fun _ i hi=>by omega,fun _=>rfl⟩⟩ ?_
  rintro ⟨a,cut⟩ W' ⟨ha,rfl,hcut⟩
  dsimp only at ha hcut
  refine rnT ?_
  refine CW.condP rfl (fun hlt2=> ?_) (fun hge2=> ?_)
  ·have haN:a<N.offs.length:=by omega
   obtain ⟨DD,rfl⟩:=hdW.addr (by omega)
   have hra:=hDr a haN
   obtain ⟨rv,hcell,hrow⟩:=hdW.row hra
   obtain ⟨R,rcap,rfl,_⟩:=hrow.form
   have hro:=rowB_ok hL haN
   obtain ⟨rd,rfl⟩:=hrow.addr (by omega)
   obtain ⟨x,hx⟩: ∃x,(rowB (lnOf N) N.offs.length a)[b]?=some x:=⟨_,List.getElem?_eq_getElem (by omega)⟩
   have hgx:gB (rowB (lnOf N) N.offs.length a) b=x:=by unfold gB; rw [List.getD_eq_getElem?_getD,hx]; rfl
   have hiffab:=hro.2.2 b hbN
   rw [hgx] at hiffab
   have hrl:=hro.1
   refine rnT ?_
   refine TW.ld rfl hcell ?_
   refine rnT ?_
   refine TW.ld rfl (hrow.getI hx) ?_
   refine rnT ?_
   refine KW.rd (a+1,cut||decide (x<0)) ⟨by show a+1≤_; omega,rfl,?_⟩
   show (cut||decide (x<0))=false↔ ∀i,i<a+1→ReachL (lnOf N) i b
   rw [Bool.or_eq_false_iff,hcut,decide_eq_false_iff_not]
   constructor
   ·rintro ⟨h1,h2⟩ i hi
    rcases Nat.lt_or_ge i a with h|h
    ·exact h1 i h
    ·have:i=a:=by omega
     subst this
     exact Classical.byContradiction fun h=>h2 (hiffab.2 h)
   ·intro h
    exact ⟨fun i hi=>h i (by omega),fun hx0=>hiffab.1 hx0 (h a (by omega))⟩
  have hae:a=N.offs.length:=by omega
  subst hae
  refine rnT ?_
  refine CW.cond rfl (fun hyes=> ?_) (fun hno=> ?_)
  ·have hcb: ¬ ∀i,i<N.offs.length→ReachL (lnOf N) i b:=fun h=>by rw [hcut.2 h] at hyes; cases hyes
   refine rnT ?_
   refine TW.build [0,1,2] _ [.int .i64 3,.int .i64 (b:Int),.int .i64 111] rfl rfl rfl (Args.cons rfl ct (Args.cons rfl ct (Args.cons rfl ct Args.nil))) (by kernel_rfl) ?_
   refine TW.buildSlice 130 _ rfl rfl rfl eo82 (Args.cons rfl ct Args.nil) rfl rfl rfl rfl rfl ?_
   rintro g5 w5 f5
   refine TW.append [.int .i64 3,.int .i64 (b:Int),.int .i64 111] rfl rfl go82 rfl (hO.below f5.below) rfl rfl (fun j u hj=>⟨_,rfl,f5.blk.fld hj⟩) (fun u hu=>by simp at hu; rcases hu with rfl|rfl|rfl<;>rfl) (by omega) (by omega) ?_
   rintro fv' w6 hO6 hg6 hn6
   refine rnT ?_
   have hW5:=hW.step f5.below
   have hd6:=(hdW.below f5.below).mono (Kept.of_blocks fun k hk hlt=>hg6.block k hlt (fun e=>by have:=hdj k e.symm; omega))
   have hs3:=b13.size
   have hs5:w3.heap.size≤w5.heap.size:=Nat.le_trans hWs f5.below.size
   refine KW.rd (b+1,fv',n+1) ⟨by show b+1≤_; omega,hW5.grown hg6 hW5.size h3,Nat.le_trans hs5 hg6.size,hd6,FRow.app (w:=w5) h3 h2 (fun u hu=>by simp at hu; rcases hu with rfl|rfl|rfl<;>rfl) hO6 hn6 hW5.size,fun g hg=> ?_,by show n+1≤b+1; omega,⟨fun h=>absurd h (Nat.succ_ne_zero n),fun h=>absurd (fun i hi=>h i b (by show b<b+1; omega) hi) hcb⟩⟩
   rcases hn6 with h|h
   ·exact hdj g (by rw [←h]; exact hg)
   ·rw [h] at hg; cases hg; exact .inr hs5
  ·have hall:=hcut.1 hno
   refine rnT ?_
   refine KW.rd (b+1,fv,n) ⟨by show b+1≤_; omega,hW,hWs,hdW,⟨zs,hO,h2,h3⟩,hdj,by show n≤b+1; omega,?_⟩
   show n=0↔ ∀x y,y<b+1→x<N.offs.length→ReachL (lnOf N) x y
   rw [hre]
   refine ⟨fun h x y hy hx=> ?_,fun h x y hy hx=>h x y (by omega) hx⟩
   rcases Nat.lt_or_ge y b with h'|h'
   ·exact h x y h' hx
   ·have:y=b:=by omega
    subst this
    exact hall x hx
 ·have hbl:b=N.offs.length:=by omega
  subst hbl
  obtain ⟨Z,zc,hzv,_⟩:=hO.form
  subst hzv
  refine rnT ?_
  refine rt1 rfl ⟨f1.below.step hW,_,_,_,rfl,?_⟩
  rw [hre]
  exact ⟨fun h=>⟨hcons,fun a b ha hb=>h a b hb ha⟩,fun h a b hb ha=>h.all a b ha hb⟩
theorem rsound_c (hN:NetAt w v N) (hf:FewN N):Gives Tryz.prog 18 #[.agg v.cells.toArray] w fun u w'=>Below w.heap.size w w'∧u= .bool (dec (SoundOK keys11 N)):=by
 have hform:=NetIn.form hN
 obtain ⟨vc,vn,vo,vf,vl,vk⟩:=v
 obtain ⟨⟨A1,c1,e1⟩,⟨A2,c2,e2⟩,⟨A3,c3,e3⟩,⟨A4,c4,e4⟩,⟨A5,c5,e5⟩,⟨A6,c6,e6⟩⟩:=id hform
 dsimp only at e1 e2 e3 e4 e5 e6
 subst e1 e2 e3 e4 e5 e6
 refine gv (f:=18) ?_
 refine rnT ?_
 refine TW.box rfl rfl rfl rfl ?_
 rintro g1 w1 f1
 refine rnT ?_
 have hB1:=f1.blk
 have hN1:=net_step hN f1.below
 refine TW.ldS rfl (fun _ _ hv=>hB1.fld hv) ?_
 refine TW.cl rfl (rcheck_c (v:=⟨.slice A1 N.cals.length c1,.slice A2 N.names.length c2,.slice A3 N.ops.length c3,.slice A4 N.offs.length c4,.slice A5 N.lines.length c5,.slice A6 N.classes.length c6⟩) hN1 hf) ?_
 rintro y2 w2 ⟨d2,A,n,cap,rfl,hiff⟩
 refine rnT ?_
 refine rt1 rfl ⟨f1.below.step d2,?_⟩
 by_cases hc:SoundOK keys11 N
 ·rw [dec_pos hc]
  simp [hiff.2 hc]
 ·rw [dec_neg hc]
  have:n≠0:=fun e=>hc (hiff.1 e)
  simp
  omega
structure FewR (N:Net):Prop where
 c:N.cals.length≤10
 n:N.names.length≤10
 o:N.ops.length≤10
 f:N.offs.length≤16
 l:N.lines.length≤50
 k:N.classes.length≤8
 cal: ∀x∈N.cals,x.week.length≤20∧x.hol.length≤60
 cod: ∀x∈N.offs,x.codes.length≤30
 nam: ∀k,1≤k→k≤5→ ∀s∈namesK N k,s.size≤40
theorem FewR.few (h:FewR N):FewN N:=⟨by have:=h.c; omega,by have:=h.n; omega,by have:=h.o; omega,by have:=h.f; omega,by have:=h.l; omega,by have:=h.k; omega⟩
theorem rfew_c (hN:NetAt w v N):Gives Tryz.prog 41 #[.agg v.cells.toArray] w fun u w'=>Below w.heap.size w w'∧u= .bool (dec (FewR N)):=by
 have hform:=NetIn.form hN
 obtain ⟨vc,vn,vo,vf,vl,vk⟩:=v
 obtain ⟨⟨A1,c1,e1⟩,⟨A2,c2,e2⟩,⟨A3,c3,e3⟩,⟨A4,c4,e4⟩,⟨A5,c5,e5⟩,⟨A6,c6,e6⟩⟩:=id hform
 dsimp only at e1 e2 e3 e4 e5 e6
 subst e1 e2 e3 e4 e5 e6
 refine gv (f:=41) ?_
 refine rnT ?_
 refine TW.box rfl rfl rfl rfl ?_
 rintro g1 w1 f1
 refine rnT ?_
 have hB1:=f1.blk
 have hN1:=net_step hN f1.below
 have b1:=f1.below
 refine TW.ld rfl (hB1.fld rfl) ?_
 refine rnT ?_
 refine TW.ld rfl (hB1.fld rfl) ?_
 refine rnT ?_
 refine TW.ld rfl (hB1.fld rfl) ?_
 refine rnT ?_
 refine TW.ld rfl (hB1.fld rfl) ?_
 refine rnT ?_
 refine TW.ld rfl (hB1.fld rfl) ?_
 refine rnT ?_
 refine TW.ld rfl (hB1.fld rfl) ?_
 refine rnT ?_
 refine CW.pk [0,1,2,41] rfl ?_
 refine CW.cond rfl (fun hbad=> ?_) (fun hgood=> ?_)
 ·refine rnT ?_
  refine rt1 rfl ⟨b1,?_⟩
  rw [dec_neg fun h=> ?_]
  have q1:=h.c
  have q2:=h.n
  have q3:=h.o
  have q4:=h.f
  have q5:=h.l
  have q6:=h.k
  simp at hbad
  omega
 have hg:(N.cals.length≤10∧N.names.length≤10∧N.ops.length≤10)∧N.offs.length≤16∧N.lines.length≤50∧N.classes.length≤8:=by
  simp at hgood
  omega
 have hf:FewN N:=⟨by omega,by omega,by omega,by omega,by omega,by omega⟩
 refine rnT ?_
 refine CW.lp [1] (fun i:Nat=> [(3,none,.int .i64 (i:Int))])
  (fun i W=>i≤N.cals.length∧Below w1.heap.size w1 W∧ ∀x∈N.cals.take i,x.week.length≤20∧x.hol.length≤60) (fun i=>N.cals.length-i) 0 ⟨Nat.zero_le _,Below.refl _ _,fun x hx=>by simp at hx⟩ ?_
 rintro i W ⟨hi,hW,hok⟩
 have hBW:=hB1.next hW
 refine rnT ?_
 refine TW.ld rfl (hBW.fld rfl) ?_
 refine rnT ?_
 refine CW.condP rfl (fun hlt=> ?_) (fun hge=> ?_)
 ·obtain ⟨x,hx,hxm⟩:=getx (l:=N.cals) (k:=i) (by omega)
  have hnW:=hN1.c.below hW
  obtain ⟨ad,rfl⟩:=hnW.addr (by omega)
  obtain ⟨ad',cs,e9,hF9,hrep9,hc9⟩:=hnW.at hx
  cases e9
  obtain ⟨u1,u2,rfl,q1,q2,q3⟩:=hrep9
  refine rnT ?_
  refine TW.ld rfl (hBW.fld rfl) ?_
  refine rnT ?_
  refine TW.ldS rfl (hc9) ?_
  refine TW.cl rfl (rsmall_c (u:=u1) (v:=u2) ⟨q1,q2,q3⟩) ?_
  rintro y5 w5 ⟨d5,rfl⟩
  refine rnT ?_
  refine CW.pk [1,3,55] rfl ?_
  refine CW.cond rfl (fun hb1=> ?_) (fun hb2=> ?_)
  ·refine rnT ?_
   refine rt1 rfl ⟨(b1.step hW).step d5,?_⟩
   rw [dec_neg fun h=> ?_]
   have:=h.cal x hxm
   simp [this.1,this.2] at hb1
  ·refine rnT ?_
   refine KW.rd (i+1) ⟨by omega,hW.step d5,fun z hz=> ?_⟩
   rw [List.take_add_one,hx] at hz
   rcases List.mem_append.1 hz with hz|hz
   ·exact hok z hz
   ·simp at hz
    subst hz
    simpa using hb2
 rw [List.take_of_length_le (by omega)] at hok
 refine rnT ?_
 refine CW.lp [1] (fun j:Nat=> [(4,none,.int .i64 (j:Int))])
  (fun j W'=>j≤N.offs.length∧W'=W∧ ∀x∈N.offs.take j,x.codes.length≤30) (fun j=>N.offs.length-j) 0 ⟨Nat.zero_le _,rfl,fun x hx=>by simp at hx⟩ ?_
 rintro j W' ⟨hj,rfl,hcok⟩
 refine rnT ?_
 refine TW.ld rfl (hBW.fld rfl) ?_
 refine rnT ?_
 refine CW.condP rfl (fun hlt2=> ?_) (fun hge2=> ?_)
 ·obtain ⟨x,hx,hxm⟩:=getx (l:=N.offs) (k:=j) (by omega)
  have hnW:=hN1.f.below hW
  obtain ⟨ad,rfl⟩:=hnW.addr (by omega)
  obtain ⟨ad',cs,e9,hF9,hrep9,hc9⟩:=hnW.at hx
  cases e9
  obtain ⟨u1,rfl,q1,q2,q3,q4,q5,q6,q7⟩:=hrep9
  obtain ⟨U,ucap,rfl,_⟩:=q7.form
  refine rnT ?_
  refine TW.ld rfl (hBW.fld rfl) ?_
  refine rnT ?_
  refine TW.ld rfl (hc9 6 _ rfl) ?_
  refine rnT ?_
  refine CW.pk [1,4,70] rfl ?_
  refine CW.condP rfl (fun hb1=> ?_) (fun hb2=> ?_)
  ·refine rnT ?_
   refine rt1 rfl ⟨b1.step hW,?_⟩
   rw [dec_neg fun h=> ?_]
   have:=h.cod x hxm
   omega
  ·refine rnT ?_
   refine KW.rd (j+1) ⟨by omega,rfl,fun z hz=> ?_⟩
   rw [List.take_add_one,hx] at hz
   rcases List.mem_append.1 hz with hz|hz
   ·exact hcok z hz
   ·simp at hz
    subst hz
    omega
 rw [List.take_of_length_le (by omega)] at hcok
 refine rnT ?_
 refine CW.lp [1] (fun k:Nat=> [(5,none,.int .i64 (k:Int))])
  (fun k W'=>1≤k∧k≤6∧Below w1.heap.size w1 W'∧ ∀j,1≤j→j<k→ ∀s∈namesK N j,s.size≤40) (fun k=>6-k) 1 ⟨Nat.le_refl _,by decide,hW,fun j h1 h2=>by omega⟩ ?_
 rintro k W2 ⟨hk1,hk6,hW2,hnok⟩
 have hBW2:=hB1.next hW2
 have hNW2:=net_step hN1 hW2
 refine rnT ?_
 refine CW.condP rfl (fun hlt3=> ?_) (fun hge3=> ?_)
 ·have hk5:k≤5:=by omega
  have hnl:=hf.names k
  refine rnT ?_
  refine TW.ldS rfl (fun _ _ hv=>hBW2.fld hv) ?_
  refine rnT ?_
  refine TW.cl rfl (names_c (v:=⟨.slice A1 N.cals.length c1,.slice A2 N.names.length c2,.slice A3 N.ops.length c3,.slice A4 N.offs.length c4,.slice A5 N.lines.length c5,.slice A6 N.classes.length c6⟩) hNW2 hf hk1 hk5) ?_
  rintro y5 w5 ⟨d5,hR⟩
  obtain ⟨A,cap,rfl⟩:=hR.form
  refine rnT ?_
  refine CW.lp [1,5,6] (fun i:Nat=> [(7,none,.int .i64 (i:Int))])
   (fun i W'=>i≤(namesK N k).length∧W'=w5∧ ∀s∈(namesK N k).take i,s.size≤40) (fun i=>(namesK N k).length-i) 0 ⟨Nat.zero_le _,rfl,fun x hx=>by simp at hx⟩ ?_
  rintro i W3 ⟨hi,rfl,hiok⟩
  refine rnT ?_
  refine CW.pk [1,5,6,7,81] rfl ?_
  refine CW.condP rfl (fun hlt4=> ?_) (fun hge4=> ?_)
  ·obtain ⟨s,hs,hsm⟩:=getx (l:=namesK N k) (k:=i) (by omega)
   obtain ⟨g,rfl,hsc⟩:=hR.at hs
   refine rnT ?_
   refine TW.ld rfl hsc ?_
   refine rnT ?_
   refine CW.condP rfl (fun hb1=> ?_) (fun hb2=> ?_)
   ·refine rnT ?_
    refine rt1 rfl ⟨(b1.step hW2).step d5,?_⟩
    rw [dec_neg fun h=> ?_]
    have:=h.nam k hk1 hk5 s hsm
    omega
   ·refine rnT ?_
    refine KW.rd (i+1) ⟨by omega,rfl,fun z hz=> ?_⟩
    rw [List.take_add_one,hs] at hz
    rcases List.mem_append.1 hz with hz|hz
    ·exact hiok z hz
    ·simp at hz
     subst hz
     omega
  ·rw [List.take_of_length_le (by omega)] at hiok
   refine rnT ?_
   refine KW.rd (k+1) ⟨by omega,by omega,hW2.step d5,fun j h1 h2=> ?_⟩
   rcases Nat.lt_or_ge j k with h|h
   ·exact hnok j h1 h
   ·have:j=k:=by omega
    subst this
    exact hiok
 ·refine rnT ?_
  refine rt1 rfl ⟨b1.step hW2,?_⟩
  rw [dec_pos ⟨hg.1.1,hg.1.2.1,hg.1.2.2,hg.2.1,hg.2.2.1,hg.2.2.2,hok,hcok,fun j h1 h5=>hnok j h1 (by omega)⟩]
end Go.Proofs.YtffjgpoadfkjlaaGreatDoor
namespace Go.PF
open Go.RowKit
end Go.PF
namespace Go.Proofs.YtffjgpoadfkjlaaGreatDoor
open Go.PF Go.RowKit Go.Ord
attribute [local irreducible] TW CW KW DW
variable {w:World}
theorem rfitting_c {dv lv:Value} {d:Dist} {l:List Ev} {W:Option Addr} {nw wc:Nat} (hd:SD w dv d) (hl:SE w lv l):Gives Tryz.prog 19 #[dv,lv,.slice W nw wc] w fun x w'=>Below w.heap.size w w'∧x= .bool (dec (FitW d l nw)):=by
 obtain ⟨A,cap,rfl,_⟩:=hd.form
 obtain ⟨B,bcap,rfl,_⟩:=hl.form
 refine gv (f:=19) ?_
 refine rnT ?_
 refine TW.callF (cap:= []) rfl rfl en44 rfl ct (Args.cons rfl id (Args.cons rfl id (Args.cons rfl ct Args.nil))) (fun _=>rvalid27_c hd hl) ?_
 rintro w3 c3
 refine rnT ?_
 refine rt1 rfl ⟨c3,?_⟩
 by_cases hf:FitW d l nw
 ·rw [dec_pos hf,dec_pos hf.wfe]
  have h1:=hf.few
  have h2:=hf.worlds
  simp
  omega
 ·rw [dec_neg hf]
  by_cases hw:WfE d l
  ·rw [dec_pos hw]
   have: ¬(l.length≤14∧nw≤400):=fun h=>hf ⟨h.1,h.2,hw.wd,hw.each⟩
   congr 1
   simp
   omega
  ·rw [dec_neg hw]
   simp
theorem spV_eq {x y:Spt}:eqVs (spV x) (spV y)=decide (x=y):=by
 obtain ⟨x1,x2⟩:=x
 obtain ⟨y1,y2⟩:=y
 simp only [spV,eqVs,eqV,Bool.and_true]
 by_cases h1:x1=y1
 ·by_cases h2:x2=y2
  ·subst h1 h2; simp
  ·simp [h2]
 ·simp [h1]
theorem rsameS_c {F G:Nat→Prop} {v u:Value} {a b:List Spt} (ha:SL sptT F w v a) (hb:SL sptT G w u b):Gives Tryz.prog 11 #[v,u] w fun x w'=>Below w.heap.size w w'∧x= .bool (decide (a=b)):=by
 obtain ⟨A,acap,rfl,_⟩:=ha.form
 obtain ⟨B,bcap,rfl,_⟩:=hb.form
 have hmax:=ha.len.2.2
 refine gv (f:=11) ?_
 refine rnT ?_
 refine CW.condP rfl (fun hne=> ?_) (fun hlen=> ?_)
 ·refine rnT ?_
  refine rt1 rfl ⟨Below.refl _ _,by rw [decide_eq_false fun h=>hne (by rw [h])]⟩
 have hlen:a.length=b.length:=by omega
 refine rnT ?_
 refine CW.lp [0,1] (fun k:Nat=> [(5,none,.int .i64 (k:Int))])
  (fun k W=>k≤a.length∧Below w.heap.size w W∧a.take k=b.take k) (fun k=>a.length-k) 0 ⟨Nat.zero_le _,Below.refl _ _,rfl⟩ ?_
 rintro k W ⟨hk,hW,hpre⟩
 refine rnT ?_
 refine CW.condP rfl (fun hlt=> ?_) (fun hge=> ?_)
 ·obtain ⟨x,hx,hxm⟩:=getx (l:=a) (k:=k) (by omega)
  obtain ⟨y,hy,hym⟩:=getx (l:=b) (k:=k) (by omega)
  have haW:=ha.below hW
  have hbW:=hb.below hW
  obtain ⟨ad,rfl⟩:=haW.addr (by omega)
  obtain ⟨bd,rfl⟩:=hbW.addr (by omega)
  have hcx:=(SPs.get haW hx).1
  have hcy:=(SPs.get hbW hy).1
  refine rnT ?_
  refine CW.draw mixed (by kernel_rfl) ?_
  refine rnD ?_
  refine DW.ldS rfl (fun j u hj=>hcx j u hj) ?_
  refine rnD ?_
  refine DW.ldS rfl (fun j u hj=>hcy j u hj) ?_
  refine DW.neqT rfl rfl rfl ct rfl ct (by kernel_rfl) ?_
  refine DW.fi [0,1,5,25] rfl fun w2 b2=> ?_
  refine KW.then_ ?_
  refine CW.cond rfl (fun hdiff=> ?_) (fun hsame=> ?_)
  ·refine rnT ?_
   refine rt1 rfl ⟨hW.step b2,?_⟩
   rw [decide_eq_false fun h=> ?_]
   subst h
   rw [hx] at hy
   cases hy
   rw [spV_eq] at hdiff
   simp at hdiff
  ·refine rnT ?_
   have hxy:x=y:=by
    rw [spV_eq] at hsame
    simpa using hsame
   refine KW.rd (k+1) ⟨by omega,hW.step b2,?_⟩
   rw [List.take_add_one,List.take_add_one,hpre,hx,hy,hxy]
 ·refine rnT ?_
  refine rt1 rfl ⟨hW,?_⟩
  rw [List.take_of_length_le (by omega),List.take_of_length_le (by omega)] at hpre
  rw [decide_eq_true hpre]
structure LightP (N:Net) (d:Dist) (l:List Ev) (ws:List (List Int)):Prop where
 net:FewR N
 offs:N.offs.length≤5
 lines:N.lines.length≤10
 few:FewP d l
 ws12:ws.length≤12
 each: ∀S∈ws,S.length≤6
theorem rlight_c {v:NV} {N:Net} {dv lv wv:Value} {d:Dist} {l:List Ev} {ws:List (List Int)} (hN:NetAt w v N) (hd:SD w dv d) (hl:SE w lv l) (hS:SD w wv ws) :
  Gives Tryz.prog 17 #[.agg v.cells.toArray,dv,lv,wv] w fun x w'=>Below w.heap.size w w'∧x= .bool (dec (LightP N d l ws)):=by
 have hform:=NetIn.form hN
 obtain ⟨X,xcap,rfl,_⟩:=hS.form
 have hmax:=hS.len.2.2
 have hv: ∃A4 c4,v.f= .slice A4 N.offs.length c4:=hform.f
 have hv5: ∃A5 c5,v.l= .slice A5 N.lines.length c5:=hform.l
 obtain ⟨vc,vn,vo,vf,vl,vk⟩:=v
 obtain ⟨A4,c4,e4⟩:=hv
 obtain ⟨A5,c5,e5⟩:=hv5
 dsimp only at e4 e5
 subst e4 e5
 refine gv (f:=17) ?_
 refine rnT ?_
 refine TW.box rfl rfl rfl rfl ?_
 rintro g4 w1 f1
 refine rnT ?_
 have hB1:=f1.blk
 refine CW.lp [1,2,3,4] (fun i:Nat=> [(9,none,.int .i64 (i:Int))])
  (fun i W=>i≤ws.length∧W=w1∧ ∀S∈ws.take i,S.length≤6) (fun i=>ws.length-i) 0 ⟨Nat.zero_le _,rfl,fun S hS=>by simp at hS⟩ ?_
 rintro i W ⟨hi,rfl,hall⟩
 refine rnT ?_
 refine CW.condP rfl (fun hlt=> ?_) (fun hge=> ?_)
 ·have hSW:=hS.below f1.below
  obtain ⟨S,hS1,hSm⟩:=getx (l:=ws) (k:=i) (by omega)
  obtain ⟨ad,rfl⟩:=hSW.addr (by omega)
  obtain ⟨sv,hcell,hrow⟩:=hSW.row hS1
  obtain ⟨C,scap,rfl,_⟩:=hrow.form
  refine rnT ?_
  refine TW.ld rfl hcell ?_
  refine rnT ?_
  refine CW.pk [1,2,3,4,9,21] rfl ?_
  refine CW.condP rfl (fun hbig=> ?_) (fun hsmall=> ?_)
  ·refine rnT ?_
   refine rt1 rfl ⟨f1.below,?_⟩
   rw [dec_neg fun h=>by have:=h.each S hSm; omega]
  ·refine rnT ?_
   refine KW.rd (i+1) ⟨by omega,rfl,fun T hT=> ?_⟩
   rw [List.take_add_one,hS1] at hT
   rcases List.mem_append.1 hT with hT|hT
   ·exact hall T hT
   ·simp at hT
    subst hT
    omega
 ·rw [List.take_of_length_le (by omega)] at hall
  refine rnT ?_
  refine TW.ldS rfl (fun _ _ hv=>hB1.fld hv) ?_
  refine TW.cl rfl (rfew_c (net_step hN f1.below)) ?_
  rintro y w2 ⟨b2,rfl⟩
  have hB2:=hB1.next b2
  have b02:=f1.below.step b2
  refine rnT ?_
  refine TW.ld rfl (hB2.fld rfl) ?_
  refine rnT ?_
  refine TW.ld rfl (hB2.fld rfl) ?_
  refine rnT ?_
  refine TW.callF (cap:= []) rfl rfl en42 rfl ct (Args.cons rfl id (Args.cons rfl id Args.nil)) (fun _=>rfew28_c (sd_step hd b02) (se_step hl b02)) ?_
  rintro w3 b3
  refine rnT ?_
  refine rt1 rfl ⟨b02.step b3,?_⟩
  congr 1
  by_cases hL:LightP N d l ws
  ·rw [dec_pos hL,dec_pos hL.net,dec_pos hL.few]
   have h1:=hL.offs
   have h2:=hL.lines
   have h3:=hL.ws12
   simp
   omega
  ·rw [dec_neg hL]
   by_cases hn:FewR N
   ·by_cases hf:FewP d l
    ·rw [dec_pos hn,dec_pos hf]
     have: ¬(N.offs.length≤5∧N.lines.length≤10∧ws.length≤12):=fun h=>hL ⟨hn,h.1,h.2.1,hf,h.2.2,hall⟩
     simp
     omega
    ·rw [dec_neg hf]
     simp
   ·rw [dec_neg hn]
    simp
end Go.Proofs.YtffjgpoadfkjlaaGreatDoor
namespace Go.Proofs.YtffjgpoadfkjlaaGreatDoor
open Go.PF Go.RowKit Go.Ord
variable {t o τ:Int} {l:Li} {w:World} {g n:Nat}
def bya (n:UInt8):ByteArray:=⟨#[n]⟩
def ofA:Of:=⟨bya 97,0,0,8,2,10,[]⟩
def ofB:Of:=⟨bya 98,0,0,8,2,10,[]⟩
def liX:Li:=⟨bya 120,0,1,0,60,1⟩
def liY:Li:=⟨bya 121,1,0,0,60,1⟩
def N0:Net:=⟨[⟨0,[true,true,true,true,true,false,false],[]⟩],[bya 99],[bya 112],[ofA,ofB],[liX,liY],[]⟩
def d0:Dist:= [[0,60],[60,0]]
def e0:Ev:=⟨0,100,100,[0]⟩
def e1:Ev:=⟨1,200,200,[1]⟩
def ev0:List Ev:= [e0,e1]
theorem wfd0:WfD d0:=by
 have two: ∀i,i<List.length d0→i=0∨i=1:=fun i hi=>by simp [d0] at hi; omega
 refine ⟨by decide,fun i r hr=> ?_,by decide,fun i j hi hj=> ?_,fun i k j hi hk hj=> ?_⟩
 rotate_left
 ·rcases two i hi with rfl|rfl<;>rcases two j hj with rfl|rfl<;>decide
 ·rcases two i hi with rfl|rfl<;>rcases two j hj with rfl|rfl<;>rcases two k hk with rfl|rfl<;>decide
 match i,hr with
 | 0,hr=>cases hr; rfl
 | 1,hr=>cases hr; rfl
 | i+2,hr=>simp [d0] at hr
theorem keys_big: ∀k∈keys11,2≤k.size:=by
 intro k hk
 have h:(keys11.all fun k=>decide (2≤k.size))=true:=by kernel_rfl
 exact of_decide_eq_true (List.all_eq_true.1 h k hk)
theorem name1 {n:UInt8} (h1:97≤n.toNat) (h2:n.toNat≤122):NameOK keys11 (bya n):=by
 have hsz:(bya n).size=1:=rfl
 have h0:byteA (bya n) 0=n.toNat:=rfl
 refine ⟨by rw [hsz]; omega,by rw [hsz]; omega,by rw [h0]; exact ⟨h1,h2⟩,fun i hi=> ?_,fun hk=> ?_⟩
 ·rw [hsz] at hi
  have:i=0:=by omega
  subst this
  rw [h0]
  exact .inl ⟨h1,h2⟩
 ·have:=keys_big _ hk
  rw [hsz] at this
  omega
theorem bya_ne {a b:UInt8} (h:a≠b):bya a≠bya b:=fun e=>h (by have:=congrArg (fun x:ByteArray=>x.data.getD 0 0) e; exact this)
theorem off0_ok {o:Of} (h:o.op=0∧o.cal=0∧o.pock=8∧o.pass=2∧o.mins=10∧o.codes= []):OfOK N0 o:=by
 obtain ⟨h1,h2,h3,h4,h5,h6⟩:=h
 have n1:N0.ops.length=1:=rfl
 have n2:N0.cals.length=1:=rfl
 exact ⟨by omega,by omega,by omega,by omega,by rw [h6]; simp,(fun c hc=>by rw [h6] at hc; cases hc),by omega,by omega,by omega,by omega,by omega,by omega⟩
theorem sound0:SoundOK keys11 N0:=by
 refine ⟨⟨rfl,⟨by decide,fun s hs=> ?_,by simp [N0],fun c hc=> ?_⟩,⟨by decide,fun s hs=> ?_,by simp [N0],fun _ _=>trivial⟩,⟨by decide,fun s hs=> ?_,?_,fun o ho=> ?_⟩,⟨by decide,fun s hs=> ?_,?_,fun l hl=> ?_⟩,⟨by decide,(fun s hs=>by cases hs),List.nodup_nil,(fun x hx=>by cases hx)⟩⟩,fun a b ha hb=> ?_⟩
 ·rw [List.mem_singleton.1 hs]; exact name1 (by decide) (by decide)
 ·rw [List.mem_singleton.1 hc]
  exact ⟨by decide,by decide,rfl,by decide,fun i x y hx=>by simp at hx⟩
 ·rw [List.mem_singleton.1 hs]; exact name1 (by decide) (by decide)
 ·have hs:s∈ [bya 97,bya 98]:=hs
  simp only [List.mem_cons,List.not_mem_nil,or_false] at hs
  rcases hs with rfl|rfl<;>exact name1 (by decide) (by decide)
 ·show [bya 97,bya 98].Nodup
  simp only [List.nodup_cons,List.mem_singleton,List.not_mem_nil,not_false_eq_true,List.nodup_nil,and_true]
  exact bya_ne (by decide)
 ·have ho:o∈ [ofA,ofB]:=ho
  simp only [List.mem_cons,List.not_mem_nil,or_false] at ho
  rcases ho with rfl|rfl<;>exact off0_ok ⟨rfl,rfl,rfl,rfl,rfl,rfl⟩
 ·have hs:s∈ [bya 120,bya 121]:=hs
  simp only [List.mem_cons,List.not_mem_nil,or_false] at hs
  rcases hs with rfl|rfl<;>exact name1 (by decide) (by decide)
 ·show [bya 120,bya 121].Nodup
  simp only [List.nodup_cons,List.mem_singleton,List.not_mem_nil,not_false_eq_true,List.nodup_nil,and_true]
  exact bya_ne (by decide)
 ·have hl:l∈ [liX,liY]:=hl
  simp only [List.mem_cons,List.not_mem_nil,or_false] at hl
  rcases hl with rfl|rfl<;>exact ⟨by decide,by decide,by decide,by decide,by decide,by decide,by decide,by decide,by decide,by decide,by decide⟩
 ·have two: ∀i,i<N0.offs.length→i=0∨i=1:=fun i hi=>by have:N0.offs.length=2:=rfl; omega
  have hx:(0,1,60)∈lnOf N0:=by show (0,1,60)∈ [(0,1,(60:Int)),(1,0,60)]; simp
  have hy:(1,0,60)∈lnOf N0:=by show (1,0,60)∈ [(0,1,(60:Int)),(1,0,60)]; simp
  rcases two a ha with rfl|rfl<;>rcases two b hb with rfl|rfl
  ·exact .refl _
  ·exact ReachL.one hx
  ·exact ReachL.one hy
  ·exact .refl _
theorem fold_fix {α β:Type} {f:α→β→α} {x:α}: ∀ {l:List β},(∀y∈l,f x y=x)→l.foldl f x=x
 | [],_=>rfl
 | y::l,h=>by rw [List.foldl_cons,h y (by simp)]; exact fold_fix fun z hz=>h z (by simp [hz])
def M1:Tab12:=(init12.set 1 60).set 12 60
theorem lines0:lines12 init12 [(0,1,60),(1,0,60)]=M1:=by
 have h1:relax12 init12 0 1 60=init12.set 1 60:=by
  unfold relax12
  rw [if_pos (.inl (by decide))]
 have h2:relax12 (init12.set 1 60) 1 0 60=M1:=by
  unfold relax12
  rw [if_pos (.inl (by decide))]
  rfl
 show relax12 (relax12 init12 0 1 60) 1 0 60=M1
 rw [h1,h2]
theorem fix_check:((List.range 12).all fun o=>(List.range 12).all fun a=>(List.range 12).all fun b=> !(decide (g12 M1 a o≠ -1)&&decide (g12 M1 o b≠ -1))|| !(decide (g12 M1 a b= -1)||decide (g12 M1 a o+g12 M1 o b<g12 M1 a b)))=true:=by decide +kernel
theorem via_fix {o a b:Nat} (ho:o<12) (ha:a<12) (hb:b<12):via12 o a M1 b=M1:=by
 have h:=List.all_eq_true.1 (List.all_eq_true.1 (List.all_eq_true.1 fix_check o (List.mem_range.2 ho)) a (List.mem_range.2 ha)) b (List.mem_range.2 hb)
 unfold via12
 split
 ·rename_i hc
  unfold relax12
  rw [if_neg]
  intro hn
  rw [decide_eq_true hc.1,decide_eq_true hc.2] at h
  simp at h
  rcases hn with hn|hn
  ·exact h.1 hn
  ·omega
 ·rfl
theorem all_fix:all12 M1 12=M1:=by
 unfold all12
 refine fold_fix fun o ho=> ?_
 unfold rnd12
 refine fold_fix fun a ha=> ?_
 unfold row12
 exact fold_fix fun b hb=>via_fix (List.mem_range.1 ho) (List.mem_range.1 ha) (List.mem_range.1 hb)
theorem dist00:distG (relaxed12 [(0,1,60),(1,0,60)]) 2= [[0,60],[60,0]]:=by
 unfold relaxed12
 rw [lines0,all_fix]
 decide +kernel
theorem dist0:distG (relaxed12 (lnOf N0)) 2=d0:=dist00
theorem eok0: ∀e∈ev0,EOK d0 e:=fun e he=>by
 simp only [ev0,List.mem_cons,List.not_mem_nil,or_false] at he
 rcases he with rfl|rfl<;>exact ⟨by decide,by decide⟩
theorem wfe0 {r:List Ev} (hr: ∀e∈r,e∈ev0) (hl:r.length≤4) {m:List Ev} (hm: ∀e∈m,e.office=0∨e.office=1) (hml:m.length≤4):WfE d0 (r++m):=⟨wfd0,by rw [List.length_append]; omega,fun e he=>by
 rcases List.mem_append.1 he with he|he
 ·exact eok0 e (hr e he)
 ·have:List.length d0=2:=rfl
  rcases hm e he with h|h<;>exact ⟨by omega,by omega⟩⟩
def tt0:List ET:= [(e0,100),(e1,200)]
theorem holds0:HoldsN d0 tt0:=⟨fun x hx=>by
 simp only [tt0,List.mem_cons,List.not_mem_nil,or_false] at hx
 rcases hx with rfl|rfl<;>simp [e0,e1],by
 simp [tt0,Aft,at2,d0,e0,e1]⟩
theorem only0 {l:List ET} (hl:l.map (·.1)=ev0) (h:HoldsN d0 l):l=tt0:=by
 obtain ⟨a,b,rfl⟩: ∃a b,l= [a,b]:=by
  have hn:=congrArg List.length hl
  simp [ev0] at hn
  obtain ⟨a,l1,rfl⟩:=List.exists_cons_of_length_pos (l:=l) (by omega)
  obtain ⟨b,l2,rfl⟩:=List.exists_cons_of_length_pos (l:=l1) (by simp at hn; omega)
  have:l2= []:=by simpa using hn
  exact ⟨a,b,by rw [this]⟩
 simp [ev0] at hl
 obtain ⟨ha,hb⟩:=hl
 have q1:=h.each a (by simp)
 have q2:=h.each b (by simp)
 obtain ⟨a1,a2⟩:=a
 obtain ⟨b1,b2⟩:=b
 dsimp only at ha hb
 subst ha hb
 simp [e0] at q1
 simp [e1] at q2
 have h1:a2=100:=by omega
 have h2:b2=200:=by omega
 rw [h1,h2]
 rfl
theorem poss_ev0:Poss d0 ev0:=⟨tt0,rfl,holds0⟩
theorem pv0:PV d0 ev0 o τ↔0≤τ∧τ≤1000000∧(ToO d0 (e0,100) o τ∨FrO d0 o τ (e0,100))∧(ToO d0 (e1,200) o τ∨FrO d0 o τ (e1,200)):=by
 unfold PV
 refine and_congr_right fun _=>and_congr_right fun _=> ?_
 constructor
 ·rintro ⟨l,hl,h,hx⟩
  rw [only0 hl h] at hx
  exact ⟨hx _ (by simp [tt0]),hx _ (by simp [tt0])⟩
 ·rintro ⟨h1,h2⟩
  refine ⟨tt0,rfl,holds0,fun x hx=> ?_⟩
  simp only [tt0,List.mem_cons,List.not_mem_nil,or_false] at hx
  rcases hx with rfl|rfl
  ·exact h1
  ·exact h2
theorem pj0 {a b:Ev} {g:Int}:PossJ d0 ev0 a b g↔LegOK d0 a b g∧ ∃t,OKt a t∧OKt b (t+g)∧(Aft d0 (e0,100) (a,t)∨Aft d0 (b,t+g) (e0,100))∧(Aft d0 (e1,200) (a,t)∨Aft d0 (b,t+g) (e1,200)):=by
 unfold PossJ
 refine and_congr_right fun _=> ?_
 constructor
 ·rintro ⟨l,t,hl,h,h2,h3,h4⟩
  rw [only0 hl h] at h4
  exact ⟨t,h2,h3,h4 _ (by simp [tt0]),h4 _ (by simp [tt0])⟩
 ·rintro ⟨t,h2,h3,h4,h5⟩
  refine ⟨tt0,t,rfl,holds0,h2,h3,fun x hx=> ?_⟩
  simp only [tt0,List.mem_cons,List.not_mem_nil,or_false] at hx
  rcases hx with rfl|rfl
  ·exact h4
  ·exact h5
theorem pos_at {f:Int} (ho:o=0∨o=1) (h: ∃τ,f≤τ∧τ≤t∧PV d0 ev0 o τ):(Knd.at o f t).b d0 ev0=true:=at_iff.2 ⟨wfe0 (fun _ h=>h) (by decide) (fun e he=>by rw [List.mem_singleton.1 he]; exact ho) (by simp),h⟩
theorem neg_at {f:Int} (h: ¬ ∃τ,f≤τ∧τ≤t∧PV d0 ev0 o τ):(Knd.at o f t).b d0 ev0=false:=by
 cases hq:(Knd.at o f t).b d0 ev0 with
 | false=>rfl
 | true=>exact absurd (at_iff.1 hq).2 h
theorem at0_iff:PV d0 ev0 0 τ↔0≤τ∧τ≤1000000∧(τ≤140∨260≤τ):=by
 rw [pv0]
 simp [ToO,FrO,at2,d0,e0,e1]
 omega
theorem at1_iff:PV d0 ev0 1 τ↔0≤τ∧τ≤1000000∧(τ≤40∨160≤τ):=by
 rw [pv0]
 simp [ToO,FrO,at2,d0,e0,e1]
 omega
theorem onx_iff:PossJ d0 ev0 (lvE liX t) (arE liX t) liX.trav↔ ∃τ,0≤τ∧τ+60≤1000000∧t-59≤τ∧τ≤t-1∧100≤τ∧τ≤140∨0≤τ∧τ+60≤1000000∧t-59≤τ∧τ≤t-1∧260≤τ:=by
 rw [pj0]
 simp [LegOK,OKt,Aft,at2,d0,e0,e1,lvE,arE,liX]
 refine exists_congr fun τ=> ?_
 omega
theorem ony_iff:PossJ d0 ev0 (lvE liY t) (arE liY t) liY.trav↔ ∃τ,0≤τ∧τ+60≤1000000∧t-59≤τ∧τ≤t-1∧τ≤40∨0≤τ∧τ+60≤1000000∧t-59≤τ∧τ≤t-1∧200≤τ:=by
 rw [pj0]
 simp [LegOK,OKt,Aft,at2,d0,e0,e1,lvE,arE,liY]
 refine exists_congr fun τ=> ?_
 omega
theorem pos_on (hl:l=liX∨l=liY) (h:PossJ d0 ev0 (lvE l t) (arE l t) l.trav):(Knd.on l t).b d0 ev0=true:=on_iff.2 ⟨wfe0 (fun _ h=>h) (by decide) (fun e he=>by
 simp only [List.mem_cons,List.not_mem_nil,or_false] at he
 rcases he with rfl|rfl<;>rcases hl with rfl|rfl<;>simp [lvE,arE,liX,liY]) (by simp),h⟩
theorem neg_on (h: ¬PossJ d0 ev0 (lvE l t) (arE l t) l.trav):(Knd.on l t).b d0 ev0=false:=by
 cases hq:(Knd.on l t).b d0 ev0 with
 | false=>rfl
 | true=>exact absurd (on_iff.1 hq).2 h
theorem fit0 {nw:Nat} (h:nw≤400):FitW d0 ev0 nw:=⟨by decide,h,wfd0,eok0⟩
theorem pok0 {nw:Nat} (h:nw≤400) (h0:0≤t) (h1:t≤1000000):PossOK N0 d0 ev0 nw t:=⟨sound0,fit0 h,rfl,h0,h1⟩
theorem can0 {k:Knd}:canB d0 (restsS ev0 [[]]) k=k.b d0 ev0:=by
 show ([restS ev0 []].any (k.b d0))=_
 rw [show restS ev0 []=ev0 from rfl]
 simp
theorem poss0 (h0:0≤t) (h1:t≤1000000):possS N0 d0 ev0 [[]] t=(if (Knd.at 0 t t).b d0 ev0 then [(0,-1)] else [])++((if (Knd.at 1 t t).b d0 ev0 then [(1,-1)] else [])++((if (Knd.on liX t).b d0 ev0 then [(-1,0)] else [])++(if (Knd.on liY t).b d0 ev0 then [(-1,1)] else []))):=by
 rw [poss_eq (pok0 (by decide) h0 h1)]
 unfold spotsS
 simp only [can0]
 show (List.filter (fun p:Spt×Knd=>p.2.b d0 ev0) [((0,-1),.at 0 t t),((1,-1),.at 1 t t),((-1,0),.on liX t),((-1,1),.on liY t)]).map (·.1)=_
 simp only [List.filter]
 cases (Knd.at 0 t t).b d0 ev0<;>cases (Knd.at 1 t t).b d0 ev0<;>cases (Knd.on liX t).b d0 ev0<;>cases (Knd.on liY t).b d0 ev0<;>rfl
theorem p100:possS N0 d0 ev0 [[]] 100= [(0,-1)]:=by
 rw [poss0 (by decide) (by decide),pos_at (.inl rfl) ⟨100,by decide,by decide,at0_iff.2 ⟨by decide,by decide,by decide⟩⟩,neg_at (fun ⟨τ,h1,h2,h3⟩=>by have:=at1_iff.1 h3; omega),neg_on (fun h=>by obtain ⟨τ,h⟩:=onx_iff.1 h; omega),neg_on (fun h=>by obtain ⟨τ,h⟩:=ony_iff.1 h; omega)]
 rfl
theorem p120:possS N0 d0 ev0 [[]] 120= [(0,-1),(-1,0)]:=by
 rw [poss0 (by decide) (by decide),pos_at (.inl rfl) ⟨120,by decide,by decide,at0_iff.2 ⟨by decide,by decide,by decide⟩⟩,neg_at (fun ⟨τ,h1,h2,h3⟩=>by have:=at1_iff.1 h3; omega),pos_on (.inl rfl) (onx_iff.2 ⟨100,by decide⟩),neg_on (fun h=>by obtain ⟨τ,h⟩:=ony_iff.1 h; omega)]
 rfl
theorem p150:possS N0 d0 ev0 [[]] 150= [(-1,0)]:=by
 rw [poss0 (by decide) (by decide),neg_at (fun ⟨τ,h1,h2,h3⟩=>by have:=at0_iff.1 h3; omega),neg_at (fun ⟨τ,h1,h2,h3⟩=>by have:=at1_iff.1 h3; omega),pos_on (.inl rfl) (onx_iff.2 ⟨100,by decide⟩),neg_on (fun h=>by obtain ⟨τ,h⟩:=ony_iff.1 h; omega)]
 rfl
theorem p170:possS N0 d0 ev0 [[]] 170= [(1,-1),(-1,0)]:=by
 rw [poss0 (by decide) (by decide),neg_at (fun ⟨τ,h1,h2,h3⟩=>by have:=at0_iff.1 h3; omega),pos_at (.inr rfl) ⟨170,by decide,by decide,at1_iff.2 ⟨by decide,by decide,by decide⟩⟩,pos_on (.inl rfl) (onx_iff.2 ⟨120,by decide⟩),neg_on (fun h=>by obtain ⟨τ,h⟩:=ony_iff.1 h; omega)]
 rfl
theorem r159:reachS d0 ev0 [[]] 1 0 159=true:=by
 unfold reachS
 rw [can0,dec_pos (fit0 (by decide)),pos_at (.inr rfl) ⟨40,by decide,by decide,at1_iff.2 ⟨by decide,by decide,by decide⟩⟩]
 rfl
theorem r41:reachS d0 ev0 [[]] 1 41 159=false:=by
 unfold reachS
 rw [can0,neg_at (fun ⟨τ,h1,h2,h3⟩=>by have:=at1_iff.1 h3; omega),Bool.and_false]
theorem s200:seenS ev0 [[]] 1 200=true:=by decide
theorem s199:seenS ev0 [[]] 1 199=false:=by decide
theorem snil:seenS ev0 [] 1 200=false:=by decide
theorem wfp0:WfP d0 ev0:=⟨wfd0,by decide,eok0,by decide⟩
theorem recs0:recsS ev0= [0,1]:=by decide
theorem rest0:restS ev0 [0]= [e1]:=by rfl
theorem rest1:restS ev0 [1]= [e0]:=by rfl
theorem worlds1:worldsS d0 ev0 1= [[0],[1]]:=by
 unfold worldsS
 rw [if_pos ⟨dec_pos wfp0,by decide,by decide,by rw [recs0]; decide⟩,recs0]
 show ([[0],[1]]:List (List Int)).filter _=_
 rw [List.filter_cons_of_pos,List.filter_cons_of_pos]
 ·rfl
 ·rw [rest1]; exact dec_pos (poss_ev0.sub (by simp [ev0]))
 ·rw [rest0]; exact dec_pos (poss_ev0.sub (by simp [ev0]))
theorem werr1:worldsE d0 ev0 1=0:=by
 unfold worldsE
 rw [if_pos ⟨dec_pos wfp0,by decide,by decide⟩,if_pos (by rw [recs0]; decide),if_neg (by rw [worlds1]; simp)]
theorem fitted0:Fitted d0 ev0:=⟨⟨wfd0,by decide,eok0⟩,poss_ev0⟩
theorem can1 {k:Knd} (h:k.b d0 [e1]=true):canB d0 (restsS ev0 [[0],[1]]) k=true:=by
 show ([restS ev0 [0],restS ev0 [1]].any (k.b d0))=true
 rw [rest0,List.any_cons,h]
 rfl
theorem at_e1 (ho:o=0∨o=1) (h0:0≤t) (h1:t≤140):(Knd.at o t t).b d0 [e1]=true:=at_iff.2 ⟨wfe0 (fun e h=>by rw [List.mem_singleton.1 h]; simp [ev0]) (by decide) (fun e he=>by rw [List.mem_singleton.1 he]; exact ho) (by simp),t,by omega,by omega,h0,by omega,[(e1,200)],rfl,⟨fun x hx=>by rw [List.mem_singleton.1 hx]; simp [e1],List.pairwise_singleton _ _⟩,fun x hx=>by
 rw [List.mem_singleton.1 hx]
 rcases ho with rfl|rfl<;>simp [ToO,FrO,at2,d0,e1]<;>omega⟩
theorem on_e1 (hl:l=liX∨l=liY):(Knd.on l 100).b d0 [e1]=true:=on_iff.2 ⟨wfe0 (fun e h=>by rw [List.mem_singleton.1 h]; simp [ev0]) (by decide) (fun e he=>by
 simp only [List.mem_cons,List.not_mem_nil,or_false] at he
 rcases he with rfl|rfl<;>rcases hl with rfl|rfl<;>simp [lvE,arE,liX,liY]) (by simp),by
 rcases hl with rfl|rfl
 ·refine ⟨by simp [LegOK,at2,d0,lvE,arE,liX],[(e1,200)],50,rfl,⟨fun x hx=>by rw [List.mem_singleton.1 hx]; simp [e1],List.pairwise_singleton _ _⟩,by simp [OKt,lvE,liX],by simp [OKt,arE,liX],fun x hx=> ?_⟩
  rw [List.mem_singleton.1 hx]
  simp [Aft,at2,d0,e1,lvE,arE,liX]
 ·refine ⟨by simp [LegOK,at2,d0,lvE,arE,liY],[(e1,200)],50,rfl,⟨fun x hx=>by rw [List.mem_singleton.1 hx]; simp [e1],List.pairwise_singleton _ _⟩,by simp [OKt,lvE,liY],by simp [OKt,arE,liY],fun x hx=> ?_⟩
  rw [List.mem_singleton.1 hx]
  simp [Aft,at2,d0,e1,lvE,arE,liY]⟩
theorem p4:(possS N0 d0 ev0 [[0],[1]] 100).length=4:=by
 rw [poss_eq (pok0 (by decide) (by decide) (by decide))]
 unfold spotsS
 show ((List.filter (fun p:Spt×Knd=>canB d0 (restsS ev0 [[0],[1]]) p.2) [((0,-1),.at 0 100 100),((1,-1),.at 1 100 100),((-1,0),.on liX 100),((-1,1),.on liY 100)]).map (·.1)).length=4
 have h1:=can1 (at_e1 (o:=0) (t:=100) (.inl rfl) (by decide) (by decide))
 have h2:=can1 (at_e1 (o:=1) (t:=100) (.inr rfl) (by decide) (by decide))
 have h3:=can1 (on_e1 (.inl rfl))
 have h4:=can1 (on_e1 (.inr rfl))
 simp only [List.filter,h1,h2,h3,h4]
 rfl
theorem i64_small {x:Int} (h0: -1000000≤x) (h1:x≤1000000):I64 x:=⟨by show (-9223372036854775808:Int)≤x; omega,by show x≤9223372036854775807; omega⟩
theorem lit_int {t:TypeId} (l:List Int) (h:Blk w g t (l.map (Value.int .i64))) (hn:n=l.length) (hI: ∀x∈l,-1000000≤x∧x≤1000000) (hs:l.length≤1000000):SI w (.slice (some ⟨g,0,none⟩) n n) l:=by
 subst hn
 exact OwnS.toInts (OwnS.of_blk h (by simp) (by omega)) (fun x hx=>i64_small (hI x hx).1 (hI x hx).2) (fun q hq=>by simp [Value.ownBlock] at hq; subst hq; exact h.lt) (by omega)
theorem lit_rows {t:TypeId} (ps:List (Value×List Int)) (h:Blk w g t (ps.map (·.1))) (hn:n=ps.length) (hp: ∀p∈ps,SI w p.1 p.2) (hs:ps.length≤1000000):SD w (.slice (some ⟨g,0,none⟩) n n) (ps.map (·.2)):=by
 subst hn
 have e1:(ps.map fun p=>(([p.1],p.2):List Value×List Int)).map (·.2)=ps.map (·.2):=by simp
 have e2:(ps.map fun p=>(([p.1],p.2):List Value×List Int)).flatMap (·.1)=ps.map (·.1):=by
  clear h hp hs e1
  induction ps with
  | nil=>rfl
  | cons p ps ih=>simp [ih]
 have:=OwnS.toSLp (T:=sliceT intT) (F:=fun k=>k<w.heap.size) (w:=w) (e:=t) (v:= .slice (some ⟨g,0,none⟩) ps.length ps.length) (n:=ps.length) (ps.map fun p=>([p.1],p.2)) (fun p hp'=>by
  obtain ⟨q,hq,rfl⟩:=List.mem_map.1 hp'
  exact ⟨q.1,rfl,hp q hq⟩) (by show 0<1; decide) (by rw [e2]; exact OwnS.of_blk h (by show (ps.map (·.1)).length=ps.length*1; simp) (by omega)) (by simp) (fun q hq=>by simp [Value.ownBlock] at hq; subst hq; exact h.lt) (by simp; omega)
 rw [e1] at this
 exact this
theorem lit_evs {t:TypeId} (ps:List (List Value×Ev)) (h:Blk w g t (ps.flatMap (·.1))) (hn:n=ps.length) (hp: ∀p∈ps,evT.rep (fun k=>k<w.heap.size) w p.1 p.2) (hs:ps.length≤1000000):SE w (.slice (some ⟨g,0,none⟩) n n) (ps.map (·.2)):=by
 subst hn
 exact OwnS.toSLp (T:=evT) (F:=fun k=>k<w.heap.size) (w:=w) (e:=t) (v:= .slice (some ⟨g,0,none⟩) ps.length ps.length) (n:=ps.length) ps hp (by decide) (OwnS.of_blk h (flat_len (fun p:List Value×Ev=>p.1) 4 ps (fun p hp'=>evT.len _ _ _ _ (hp p hp'))) (by omega)) rfl (fun q hq=>by simp [Value.ownBlock] at hq; subst hq; exact h.lt) (by omega)
end Go.Proofs.YtffjgpoadfkjlaaGreatDoor
namespace Go.Proofs.YtffjgpoadfkjlaaGreatDoor
open Go.PF Go.RowKit Go.Ord
attribute [local irreducible] TW CW KW DW
variable {w:World}
theorem litP {α:Type} {T:Ty α} {g:Nat} {t:TypeId} {n:Nat} (h0:0<T.n) (ps:List (List Value×α)) (h:Blk w g t (ps.flatMap (·.1))) (hn:n=ps.length) (hp: ∀p∈ps,T.rep (fun k=>k<w.heap.size) w p.1 p.2) (hs:ps.length≤1000000):SL T (fun k=>k<w.heap.size) w (.slice (some ⟨g,0,none⟩) n n) (ps.map (·.2)):=by
 subst hn
 exact OwnS.toSLp (T:=T) (F:=fun k=>k<w.heap.size) (w:=w) (e:=t) (v:= .slice (some ⟨g,0,none⟩) ps.length ps.length) (n:=ps.length) ps hp h0 (OwnS.of_blk h (flat_len (fun p:List Value×α=>p.1) T.n ps (fun p hp'=>T.len _ _ _ _ (hp p hp'))) (by omega)) rfl (fun q hq=>by simp [Value.ownBlock] at hq; subst hq; exact h.lt) (by omega)
theorem s1 (n:UInt8):(bya n).size≤9223372036854775807:=by show 1≤_; decide
theorem example_c:Gives Tryz.prog 9 #[] w fun u w'=>Below w.heap.size w w'∧ ∃v:NV,u= .agg v.cells.toArray∧NetAt w' v N0:=by
 refine gv (f:=9) ?_
 refine rnT ?_
 refine TW.alloc rfl rfl zc29 ?_
 rintro g0 w0 f0
 refine rnT ?_
 refine TW.buildSlice 4 _ rfl rfl rfl eo92 (Args.cons rfl ct (Args.cons rfl ct (Args.cons rfl ct (Args.cons rfl ct (Args.cons rfl ct (Args.cons rfl ct (Args.cons rfl ct Args.nil))))))) rfl rfl rfl rfl rfl ?_
 rintro gw wA fA
 refine TW.build [1] _ [.int .i64 0,.slice (some ⟨gw,0,none⟩) 7 7,.slice none 0 0] rfl rfl rfl (Args.cons rfl ct Args.nil) (by kernel_rfl) ?_
 refine TW.newVar rfl zc94 rfl sz94 rfl rfl ?_
 rintro g1 w1 f1
 refine rnT ?_
 refine TW.build [0,3,4,5] _ [.string (bya 97),.int .i64 0,.int .i64 0,.int .i64 8,.int .i64 2,.int .i64 10,.slice none 0 0] rfl rfl rfl (Args.cons rfl ct (Args.cons rfl ct (Args.cons rfl ct (Args.cons rfl ct Args.nil)))) (by kernel_rfl) ?_
 refine TW.newVar rfl zc96 rfl sz96 rfl rfl ?_
 rintro g2 w2 f2
 refine rnT ?_
 refine TW.ldS rfl (fun _ _ hv=>f2.blk.fld hv) ?_
 refine TW.newVar rfl zc96 rfl sz96 rfl rfl ?_
 rintro g3 w3 f3
 refine rnT ?_
 refine TW.storeFld rfl sz9 rfl rfl f3.blk (by show 0<7; decide) rfl ?_
 rintro w4 hB4 hbut4 hsz4
 refine rnT ?_
 have q0:=f0.at_
 have q0':=f0.size
 have q3:=f3.at_
 have q3':=f3.size
 have b03:Below w.heap.size w w3:=f0.below.step (fA.below.step (f1.below.step (f2.below.step f3.below)))
 have b13:=f1.below.step (f2.below.step f3.below)
 have k4: ∀ {g:Nat} {t:TypeId} {cs:List Value},Blk w3 g t cs→g≠g3→Blk w4 g t cs:=fun h hne=>hbut4.blk h hne
 have sA:=fA.below.size
 have s1':=f1.below.size
 have s2':=f2.below.size
 have hBw:Blk w4 gw 4 [.bool true,.bool true,.bool true,.bool true,.bool true,.bool false,.bool false]:=k4 (fA.blk.next b13) (by have:=fA.blk.lt; omega)
 have hB1:=k4 (f1.blk.next (f2.below.step f3.below)) (by have:=f1.blk.lt; omega)
 have hB2:=k4 (f2.blk.next f3.below) (by have:=f2.blk.lt; omega)
 have hB0:=k4 (f0.blk.next (fA.below.step b13)) (by have:=f0.blk.lt; omega)
 have hb4:Below w.heap.size w w4:=b03.grown hbut4 b03.size (fun q hq=>by cases hq; omega)
 refine TW.ldS rfl (fun _ _ hv=>hB1.fld hv) ?_
 refine TW.buildSlice 94 _ rfl rfl rfl eo22 (Args.cons rfl ct Args.nil) rfl rfl rfl rfl rfl ?_
 rintro g5 w5 f5
 refine TW.buildSlice 9 _ rfl rfl rfl eo23 (Args.cons rfl ct Args.nil) rfl rfl rfl rfl rfl ?_
 rintro g6 w6 f6
 refine TW.build [0] _ [.string (bya 112)] rfl rfl rfl (Args.cons rfl ct Args.nil) (by kernel_rfl) ?_
 refine TW.buildSlice 98 _ rfl rfl rfl eo24 (Args.cons rfl ct Args.nil) rfl rfl rfl rfl rfl ?_
 rintro g7 w7 f7
 have b47:=f5.below.step (f6.below.step f7.below)
 refine TW.ldS rfl (fun _ _ hv=>(hB2.next b47).fld hv) ?_
 refine TW.ldS rfl (fun _ _ hv=>(hB4.next b47).fld hv) ?_
 refine TW.buildSlice 96 _ rfl rfl rfl eo25 (Args.cons rfl ct (Args.cons rfl ct Args.nil)) rfl rfl rfl rfl rfl ?_
 rintro g8 w8 f8
 refine TW.build [0,2,4,5] _ (liV liX) rfl rfl rfl (Args.cons rfl ct (Args.cons rfl ct (Args.cons rfl ct (Args.cons rfl ct Args.nil)))) (by kernel_rfl) ?_
 refine TW.build [0,1,4,5] _ (liV liY) rfl rfl rfl (Args.cons rfl ct (Args.cons rfl ct (Args.cons rfl ct (Args.cons rfl ct Args.nil)))) (by kernel_rfl) ?_
 refine TW.buildSlice 36 _ rfl rfl rfl eo26 (Args.cons rfl ct (Args.cons rfl ct Args.nil)) rfl rfl rfl rfl rfl ?_
 rintro g9 w9 f9
 refine TW.build [0,1,2,3,4] _ [.slice (some ⟨g5,0,none⟩) 1 1,.slice (some ⟨g6,0,none⟩) 1 1,.slice (some ⟨g7,0,none⟩) 1 1,.slice (some ⟨g8,0,none⟩) 2 2,.slice (some ⟨g9,0,none⟩) 2 2,.slice none 0 0] rfl rfl rfl (Args.cons rfl ct (Args.cons rfl ct (Args.cons rfl ct (Args.cons rfl ct (Args.cons rfl ct Args.nil))))) (by kernel_rfl) ?_
 have b49:=b47.step (f8.below.step f9.below)
 have b59:=f6.below.step (f7.below.step (f8.below.step f9.below))
 refine TW.storeBlkF rfl rfl rfl (hB0.next b49) sz29 rfl rfl rfl ?_
 rintro w10 hB10 hbut10 hsz10
 refine rnT ?_
 have hlt4:=hB0.lt
 have s49:=b49.size
 have e5:=f5.blk.lt
 have n: ∀ {g:Nat} {t:TypeId} {cs:List Value},Blk w9 g t cs→w4.heap.size≤g→Blk w10 g t cs:=fun h hne=>Blk.keptO h hbut10 (fun e=>by cases e; omega)
 have a5:=f5.at_
 have a6:=f6.at_
 have a7:=f7.at_
 have a8:=f8.at_
 have a9:=f9.at_
 have z5:=f5.below.size
 have z6:=f6.below.size
 have z7:=f7.below.size
 have z8:=f8.below.size
 have c5:=n (f5.blk.next b59) (by omega)
 have c6:=n (f6.blk.next (f7.below.step (f8.below.step f9.below))) (by omega)
 have c7:=n (f7.blk.next (f8.below.step f9.below)) (by omega)
 have c8:=n (f8.blk.next f9.below) (by omega)
 have c9:=n f9.blk (by omega)
 have hw10:Blk w10 gw 4 [.bool true,.bool true,.bool true,.bool true,.bool true,.bool false,.bool false]:=Blk.keptO (hBw.next b49) hbut10 (fun e=>by cases e; have:=fA.at_; omega)
 have hI: ∀x:Int,-1000000≤x→x≤1000000→I64 x:=fun x=>i64_small
 refine retCS Tryz.results9 Tryz.underlying29 (by exact sz29) rfl (hB10) (⟨(hb4.step b49).grown hbut10 (hb4.step b49).size (fun q hq=>by cases hq; omega),⟨.slice (some ⟨g5,0,none⟩) 1 1,.slice (some ⟨g6,0,none⟩) 1 1,.slice (some ⟨g7,0,none⟩) 1 1,.slice (some ⟨g8,0,none⟩) 2 2,.slice (some ⟨g9,0,none⟩) 2 2,.slice none 0 0⟩,rfl,?_⟩)
 have hwk:SL boolT (fun k=>k<w10.heap.size) w10 (.slice (some ⟨gw,0,none⟩) 7 7) [true,true,true,true,true,false,false]:=litP (T:=boolT) (by decide) [([.bool true],true),([.bool true],true),([.bool true],true),([.bool true],true),([.bool true],true),([.bool false],false),([.bool false],false)] hw10 rfl (fun p hp=>by
  simp only [List.mem_cons,List.not_mem_nil,or_false] at hp
  rcases hp with rfl|rfl|rfl|rfl|rfl|rfl|rfl<;>rfl) (by simp)
 refine ⟨?_,?_,?_,?_,?_,SL.nil _ _ _⟩
 ·exact litP (T:=calT) (by decide) [([.int .i64 0,.slice (some ⟨gw,0,none⟩) 7 7,.slice none 0 0],⟨0,[true,true,true,true,true,false,false],[]⟩)] c5 rfl (fun p hp=>by
   rw [List.mem_singleton] at hp
   subst hp
   exact ⟨_,_,rfl,hI 0 (by omega) (by omega),hwk,SL.nil _ _ _⟩) (by simp)
 ·exact litP (T:=strT) (by decide) [([.string (bya 99)],bya 99)] c6 rfl (fun p hp=>by
   rw [List.mem_singleton] at hp
   subst hp
   exact ⟨rfl,s1 _⟩) (by simp)
 ·exact litP (T:=strT) (by decide) [([.string (bya 112)],bya 112)] c7 rfl (fun p hp=>by
   rw [List.mem_singleton] at hp
   subst hp
   exact ⟨rfl,s1 _⟩) (by simp)
 ·exact litP (T:=ofT) (by decide) [([.string (bya 97),.int .i64 0,.int .i64 0,.int .i64 8,.int .i64 2,.int .i64 10,.slice none 0 0],ofA),([.string (bya 98),.int .i64 0,.int .i64 0,.int .i64 8,.int .i64 2,.int .i64 10,.slice none 0 0],ofB)] c8 rfl (fun p hp=>by
   simp only [List.mem_cons,List.not_mem_nil,or_false] at hp
   rcases hp with rfl|rfl<;>exact ⟨_,rfl,s1 _,hI 0 (by omega) (by omega),hI 0 (by omega) (by omega),hI 8 (by omega) (by omega),hI 2 (by omega) (by omega),hI 10 (by omega) (by omega),SL.nil _ _ _⟩) (by simp)
 ·exact litP (T:=liT) (by decide) [(liV liX,liX),(liV liY,liY)] c9 rfl (fun p hp=>by
   simp only [List.mem_cons,List.not_mem_nil,or_false] at hp
   rcases hp with rfl|rfl
   ·exact ⟨rfl,s1 _,hI 0 (by omega) (by omega),hI 1 (by omega) (by omega),hI 0 (by omega) (by omega),hI 60 (by omega) (by omega),hI 1 (by omega) (by omega)⟩
   ·exact ⟨rfl,s1 _,hI 1 (by omega) (by omega),hI 0 (by omega) (by omega),hI 0 (by omega) (by omega),hI 60 (by omega) (by omega),hI 1 (by omega) (by omega)⟩) (by simp)
theorem events_c:Gives Tryz.prog 12 #[] w fun u w'=>Below w.heap.size w w'∧SE w' u ev0:=by
 refine gv (f:=12) ?_
 refine rnT ?_
 refine TW.buildSlice 3 _ rfl rfl rfl eo37 (Args.cons rfl ct Args.nil) rfl rfl rfl rfl rfl ?_
 rintro g1 w1 f1
 refine TW.build [1,2,3] _ [.int .i64 0,.int .i64 100,.int .i64 100,.slice (some ⟨g1,0,none⟩) 1 1] rfl rfl rfl (Args.cons rfl ct (Args.cons rfl ct (Args.cons rfl ct Args.nil))) (by kernel_rfl) ?_
 refine TW.buildSlice 3 _ rfl rfl rfl eo37 (Args.cons rfl ct Args.nil) rfl rfl rfl rfl rfl ?_
 rintro g2 w2 f2
 refine TW.build [0,1,2,3] _ [.int .i64 1,.int .i64 200,.int .i64 200,.slice (some ⟨g2,0,none⟩) 1 1] rfl rfl rfl (Args.cons rfl ct (Args.cons rfl ct (Args.cons rfl ct (Args.cons rfl ct Args.nil)))) (by kernel_rfl) ?_
 refine TW.buildSlice 39 _ rfl rfl rfl eo31 (Args.cons rfl ct (Args.cons rfl ct Args.nil)) rfl rfl rfl rfl rfl ?_
 rintro g3 w3 f3
 refine rnT ?_
 have n0:SI w3 (.slice (some ⟨g1,0,none⟩) 1 1) [0]:=lit_int _ (f1.blk.next (f2.below.step f3.below)) rfl (by decide) (by decide)
 have n1:SI w3 (.slice (some ⟨g2,0,none⟩) 1 1) [1]:=lit_int _ (f2.blk.next f3.below) rfl (by decide) (by decide)
 have he:SE w3 (.slice (some ⟨g3,0,none⟩) 2 2) ev0:=lit_evs [([.int .i64 0,.int .i64 100,.int .i64 100,.slice (some ⟨g1,0,none⟩) 1 1],e0),([.int .i64 1,.int .i64 200,.int .i64 200,.slice (some ⟨g2,0,none⟩) 1 1],e1)] f3.blk rfl (fun p hp=>by
  simp only [List.mem_cons,List.not_mem_nil,or_false] at hp
  rcases hp with rfl|rfl
  ·exact ⟨_,rfl,i64_small (by simp [e0]) (by simp [e0]),i64_small (by simp [e0]) (by simp [e0]),i64_small (by simp [e0]) (by simp [e0]),n0⟩
  ·exact ⟨_,rfl,i64_small (by simp [e1]) (by simp [e1]),i64_small (by simp [e1]) (by simp [e1]),i64_small (by simp [e1]) (by simp [e1]),n1⟩) (by simp)
 refine rt1 rfl ⟨f1.below.step (f2.below.step f3.below),he⟩
theorem evs_needs: ∀e∈ev0,e.needs.length≤1000000:=by decide
end Go.Proofs.YtffjgpoadfkjlaaGreatDoor
namespace Go.PF
open Go.RowKit
section
variable {P:Program} {N:Nat} {ds:List Deferred} {ops rest:List Oper} {D:DE} {w:World} {G:Option Bool} {Fin:DE→Prop}
variable {d:Option Tmp} {ty:TypeId} {pos:String} {af:Array Edge} {gu:Option (Nat×Bool)}
variable {x:Operand} {cx:Option Bool}
theorem DW.lenP {φ:Value→World→Prop} {t e:TypeId} (n:Nat) (hg:dgd ops D gu=some G) (hd:okDst N d=true) (ht:P.underlying t=some (.slice e)) (hx:dev D x=some (cx,.pr φ)) (ix:Cnd G→Cnd cx) (h: ∀u w,φ u w→ ∃A c,u= .slice A n c)
  (next:DW P N ds .weak ops w Fin rest (dins D d G (.ex (.int .i64 (n:Int))))):DW P N ds .weak ops w Fin (⟨d,.call ⟨.builtin .len,#[x],#[t]⟩,ty,pos,af,gu⟩::rest) D:=by
 refine DW.gen (e:= .ex (.int .i64 (n:Int))) hg hd rfl trivial (fun hG a w' hb ha=> ?_) next
 have h1:φ (a.eval x) w':=ha.evalP (o:=⟨d,.call ⟨.builtin .len,#[x],#[t]⟩,ty,pos,af,gu⟩) hx (by simp [Op.operands,Call.operands]) (ix hG)
 obtain ⟨A,c,h2⟩:=h _ _ h1
 exact ⟨_,w',X.lenSlice ht h2,Below.refl _ _,rfl⟩
end
end Go.PF
