/- Texts of this claim,joined. -/
import Derived.Test.YtobaafdejnimkaaGreatDoorQP
set_option linter.unusedSimpArgs false
set_option linter.unusedVariables false
set_option maxRecDepth 100000
set_option maxHeartbeats 4000000
namespace Go.Proofs.YtobaafdejnimkaaGreatDoor
open Go.PF Go.RowKit Go.Ord
attribute [local irreducible] TW CW KW DW
variable {w:World} {F:Nat→Prop} {p:Pp} {g n g2 g3 g4:Nat} {v kv pv lv wv dv psv:Value} {l:List Ev} {ks:List Int} {d:Dist} {ws:List (List Int)} {t a b op:Int} {N:Net} {c:Cl} {lab:ByteArray} {ps:List Pp}
def outS (x:Int):Bool:=decide (x< -1)||decide (x ≥ 2147483647)
theorem climb1_c:PredI Tryz.prog w 215 [] outS:=by
 intro x W hb
 refine gv (f:=215) ?_
 refine rnT ?_
 refine rt1 rfl ⟨Below.refl _ _,rfl⟩
theorem climb2_c {b:Nat} {nv:Value} {xs:List Value} {l:List Int} (hB:Blk w g 30 [v]) (hO:OwnS w 32 1 v n xs) (hn:n≤1000) (hb:b≤g) (hvb: ∀q,v.ownBlock=some q→b≤q∧q≠g) (hl:SL intT F w nv l) (hF: ∀k,F k→k<w.heap.size∧k≠g∧v.ownBlock≠some k) :
  Gives Tryz.prog 216 #[nv,.pointer (some ⟨g,0,none⟩)] w fun u w'=>w.heap.size≤w'.heap.size∧Below b w w'∧u= .int .i64 (sumS l)∧ ∃v' xs',Blk w' g 30 [v']∧OwnS w' 32 1 v' (n+1) xs'∧ ∀q,v'.ownBlock=some q→b≤q∧q≠g:=by
 obtain ⟨A,cap,rfl,_⟩:=hl.form
 have hglt:=hB.lt
 refine gv (f:=216) ?_
 refine rnT ?_
 refine TW.ld rfl (hB.cell 0) ?_
 refine rnT ?_
 refine TW.buildSlice 32 _ rfl rfl rfl eo30 (Args.cons rfl ct Args.nil) rfl rfl rfl rfl rfl ?_
 rintro g1 w1 f1
 refine TW.append [.slice A l.length cap] rfl rfl go30 rfl (hO.below f1.below) rfl rfl (fun j u hj=>⟨_,rfl,f1.blk.fld hj⟩) (fun u hu=>by simp at hu; subst hu; rfl) (by omega) (by omega) ?_
 rintro v5 w5 hO5 hg5 hn5
 have hB5:Blk w5 g 30 [v]:=Blk.keptO (hB.next f1.below) hg5 (fun e=>(hvb g e).2 rfl)
 have hg1:=f1.at_
 have hne:v5.ownBlock≠some g:=fun e=>by
  rcases hn5 with h|h
  ·exact (hvb g (by rw [←h]; exact e)).2 rfl
  ·rw [h] at e
   cases e
   have:=f1.below.size
   omega
 have h1c:v5.oneCell'=true:=by
  obtain ⟨A5,c5,e5,_⟩:=hO5.form
  rw [e5]
  rfl
 refine TW.storeFld rfl sz30 rfl rfl hB5 (by show 0<1; decide) h1c ?_
 rintro w6 hB6 hbut6 hs6
 refine rnT ?_
 have hl6:SL intT F w6 (.slice A l.length cap) l:=hl.mono (Kept.of_blocks fun k hk hlt=>by
  obtain ⟨k1,k2,k3⟩:=hF k hk
  have e1:=f1.below.block k k1
  have s1:=f1.below.size
  have e2:=hg5.block k (by omega) (Ne.symm k3)
  have s2:=hg5.size
  have e3:=hbut6.block k (by omega) (fun e=>k2 (by cases e; rfl))
  rw [e3,e2,e1])
 refine TW.cl rfl (sum_c hl6) ?_
 rintro y w7 ⟨rfl,rfl⟩
 refine rnT ?_
 have s1:=f1.below.size
 have s2:=hg5.size
 refine rt1 rfl ⟨by omega,?_,rfl,v5,_,hB6,hO5.kept (fun q hq=> ?_),fun q hq=>⟨?_,fun e=>hne (by rw [←e]; exact hq)⟩⟩
 ·refine ⟨(hbut6.os.trans hg5.os).trans f1.below.os,(hbut6.tape.trans hg5.tape).trans f1.below.tape,(hbut6.output.trans hg5.output).trans f1.below.output,by omega,fun i hi=> ?_⟩
  rw [hbut6.block i (by omega) (fun e=>by cases e; omega),hg5.block i (by omega) (fun e=>by have:=(hvb i e.symm).1; omega),f1.below.block i (by omega)]
 ·exact hbut6.block q (hO5.lt hq) (fun e=>hne (by rw [hq,e]))
 ·rcases hn5 with h|h
  ·exact (hvb q (by rw [←h]; exact hq)).1
  ·rw [h] at hq
   cases hq
   omega
theorem out_any {l:List Int}:l.any outS=false↔ ∀x∈l,-1≤x∧x<2147483647:=by
 rw [List.any_eq_false]
 refine forall_congr' fun x=>forall_congr' fun _=> ?_
 unfold outS
 simp
def Lsts (w0 W:World) (g n:Nat):Prop:=w0.heap.size≤g∧ ∃v xs,Blk W g 30 [v]∧OwnS W 32 1 v n xs∧ ∀q,v.ownBlock=some q→w0.heap.size≤q∧q≠g
theorem Lsts.next {w0 W W':World} {g n:Nat} (h:Lsts w0 W g n) (hb:Below W.heap.size W W'):Lsts w0 W' g n:=by
 obtain ⟨h1,v,xs,h2,h3,h4⟩:=h
 exact ⟨h1,v,xs,h2.next hb,h3.below hb,h4⟩
theorem compute_c {w0 W0:World} {nv:Value} {l:List Int} (hL:Lsts w0 W0 g n) (hb:Below W0.heap.size W0 w) (hn:n≤1000) (hl:SL intT F w nv l) (hF: ∀k,F k→W0.heap.size≤k∧k<w.heap.size) :
  Gives Tryz.prog 216 #[nv,.pointer (some ⟨g,0,none⟩)] w fun u w'=>w.heap.size≤w'.heap.size∧Below w0.heap.size w w'∧u= .int .i64 (sumS l)∧Lsts w0 w' g (n+1):=by
 obtain ⟨h1,v,xs,h2,h3,h4⟩:=hL
 refine (climb2_c (h2.next hb) (h3.below hb) hn h1 h4 hl (fun k hk=> ?_)).mono ?_
 ·obtain ⟨k1,k2⟩:=hF k hk
  have hg:=h2.lt
  exact ⟨k2,by omega,fun e=>by have:=h3.lt e; omega⟩
 ·rintro u w' ⟨q1,q2,q3,v',xs',q4,q5,q6⟩
  exact ⟨q1,q2,q3,h1,v',xs',q4,q5,q6⟩
theorem lit_new {t:TypeId} (l:List Int) (h:Blk w g t (l.map (Value.int .i64))) (hn:n=l.length) (hI: ∀x∈l,I64 x) (hs:l.length≤1000000):SL intT (fun k=>k=g) w (.slice (some ⟨g,0,none⟩) n n) l:=by
 subst hn
 exact OwnS.toInts (OwnS.of_blk h (by simp) (by omega)) hI (fun q hq=>by simp [Value.ownBlock] at hq; exact hq.symm) (by omega)
theorem sum_i64 (l:List Int):I64 (sumS l):=by
 have:=sumS_rng l
 exact ⟨by omega,by omega⟩
theorem low_i64 {x:Int} (h: -1≤x∧x<2147483647):I64 x:=⟨by omega,by omega⟩
theorem three_i64 {c:Int} (ha:I64 a) (hb:I64 b) (hc:I64 c): ∀x∈ [a,b,c],I64 x:=fun x hx=>by
 simp only [List.mem_cons,List.not_mem_nil,or_false] at hx
 rcases hx with rfl|rfl|rfl<;>assumption
theorem climb_c {s:ByteArray} {i:Int} {p:List Int} (hp:SL intT F w v p) (hs:s.size≤1000000) (hi:I64 i) :
  Gives Tryz.prog 143 #[.string s,.int .i64 i,v] w fun u w'=>Below w.heap.size w w'∧((ClimbOK i p∧ ∃A n c,u= .tuple #[.int .i64 (climbS (leafS s) i p),.slice A (n+1) c])∨(¬ClimbOK i p∧u= .tuple #[.int .i64 0,.slice none 0 0])):=by
 obtain ⟨A,cap,rfl,_⟩:=hp.form
 have hmax:=hp.len.2.2
 refine gv (f:=143) ?_
 refine rnT ?_
 refine TW.callF (cap:= []) rfl rfl en73 rfl ct (Args.cons rfl id (Args.cons rfl id Args.nil)) (fun _=>containsI_c hp en215 climb1_c) ?_
 rintro w1 b1
 refine rnT ?_
 refine CW.cond rfl (fun hbad=> ?_) (fun hgood=> ?_)
 ·refine rnT ?_
  refine rt2 rfl ⟨b1,.inr ⟨fun h=> ?_,rfl⟩⟩
  have:=out_any.2 h.each
  have h1:=h.i0
  have h2:=h.few
  rw [this] at hbad
  simp at hbad
  omega
 have hok:ClimbOK i p:=by
  cases hq:p.any outS with
  | true=>rw [hq] at hgood; simp at hgood
  | false =>
   rw [hq] at hgood
   simp at hgood
   exact ⟨by omega,by omega,out_any.1 hq⟩
 have hi0:=hok.i0
 have hfew:=hok.few
 refine rnT ?_
 refine TW.alloc rfl rfl zc30 ?_
 rintro g2 w2 f2
 refine rnT ?_
 refine TW.makeFunc rfl rfl (Args.cons rfl ct Args.nil) ?_
 refine rnT ?_
 have hg2:=f2.at_
 have hb1s:=b1.size
 have hw2:=f2.size
 have hL2:Lsts w w2 g2 0:=⟨by omega,.slice none 0 0,[],f2.blk,OwnS.nil _ _ _,fun q hq=>by simp [Value.ownBlock] at hq⟩
 refine TW.cl rfl (numb_c hs) ?_
 rintro y w3 ⟨b3,h3⟩
 refine TW.call0 rfl rfl en216 rfl (Args.cons rfl ct Args.nil) (compute_c hL2 b3 (by omega) h3 (fun k hk=>hk)) ?_
 rintro y w4 ⟨s4,b4,rfl,hL4⟩
 refine TW.buildSlice 3 _ rfl rfl rfl eo32 (Args.cons rfl ct (Args.cons rfl ct Args.nil)) rfl rfl rfl rfl rfl ?_
 rintro g5 w5 f5
 have hg5:=f5.at_
 have hw5:=f5.size
 have hl5:SL intT (fun k=>k=g5) w5 (.slice (some ⟨g5,0,none⟩) 2 2) [0,labS s]:=lit_new _ f5.blk rfl (fun x hx=>by
  simp only [List.mem_cons,List.not_mem_nil,or_false] at hx
  rcases hx with rfl|rfl
  ·exact low_i64 (by decide)
  ·exact sum_i64 _) (by simp)
 refine TW.call0 rfl rfl en216 rfl (Args.cons rfl ct Args.nil) (compute_c hL4 f5.below (by omega) hl5 (fun k hk=>by omega)) ?_
 rintro y w6 ⟨s6,b6,rfl,hL6⟩
 have b06:Below w.heap.size w w6:=by
  have q1:=(b1.step f2.below).step b3
  have q2:Below w.heap.size w w4:=⟨b4.os.trans q1.os,b4.tape.trans q1.tape,b4.output.trans q1.output,by have:=q1.size; omega,fun k hk=>(b4.block k hk).trans (q1.block k hk)⟩
  have q3:=q2.step f5.below
  exact ⟨b6.os.trans q3.os,b6.tape.trans q3.tape,b6.output.trans q3.output,by have:=q3.size; omega,fun k hk=>(b6.block k hk).trans (q3.block k hk)⟩
 refine rnT ?_
 refine CW.lp [9,10,34,35] (fun x:Nat×Int×Int=> [(1,none,.int .i64 x.2.1),(11,none,.int .i64 x.2.2),(36,none,.int .i64 (x.1:Int))])
  (fun x W=>x.1≤p.length∧Below w.heap.size w W∧0≤x.2.1∧x.2.1≤9223372036854775807∧I64 x.2.2∧climbS x.2.2 x.2.1 (p.drop x.1)=climbS (leafS s) i p∧ ∃n,n≤x.1+1∧Lsts w W g2 (n+1)) (fun x=>p.length-x.1) (0,i,leafS s) ⟨Nat.zero_le _,b06,hi0,hi.2,sum_i64 _,rfl,1,by omega,hL6⟩ ?_
 rintro ⟨k,ix,h⟩ W ⟨hk,hbW,hx0,hx1,hhI,heq,n,hn,hLW⟩
 dsimp only at hk hbW hx0 hx1 hhI heq hn
 refine rnT ?_
 refine CW.pk [1,9,10,11,34,35,36,37] rfl ?_
 refine CW.condP rfl (fun hlt=> ?_) (fun hge=> ?_)
 ·obtain ⟨b,hb,hbm⟩:=getx (l:=p) (k:=k) (by omega)
  obtain ⟨hkl,hbe⟩:=List.getElem?_eq_some_iff.1 hb
  have hdr:p.drop k=b::p.drop (k+1):=by rw [List.drop_eq_getElem_cons hkl,hbe]
  rw [hdr] at heq
  have hpW:=hp.below hbW
  obtain ⟨ad,rfl⟩:=hpW.addr (by omega)
  have hbI:=low_i64 (hok.each b hbm)
  have hq0:=Int.ediv_nonneg hx0 (show (0:Int)≤2 by decide)
  have hq1:=Int.ediv_le_self 2 hx0
  refine rnT ?_
  refine TW.ld rfl (hpW.getI hb) ?_
  refine rnT ?_
  refine CW.condP rfl (fun h1=> ?_) (fun h1=> ?_)
  ·refine rnT ?_
   refine KW.rd (k+1,ix / 2,h) ⟨by omega,hbW,hq0,Int.le_trans hq1 hx1,hhI,?_,n,by omega,hLW⟩
   rw [←heq,climbS,if_pos h1]
  ·refine rnT ?_
   refine CW.pk [1,9,10,11,13,34,35,36,48] rfl ?_
   refine CW.condP rfl (fun h2=> ?_) (fun h2=> ?_)
   ·refine rnT ?_
    refine TW.buildSlice 3 _ rfl rfl rfl eo32 (Args.cons rfl ct (Args.cons rfl ct (Args.cons rfl ct Args.nil))) rfl rfl rfl rfl rfl ?_
    rintro g7 w7 f7
    have hg7:=f7.at_
    have hw7:=f7.size
    refine TW.call0 rfl rfl en216 rfl (Args.cons rfl ct Args.nil) (compute_c hLW f7.below (by omega) (lit_new [1,b,h] f7.blk rfl (three_i64 (low_i64 (by decide)) hbI hhI) (by simp)) (fun k hk=>by omega)) ?_
    rintro y w8 ⟨s8,b8,rfl,hL8⟩
    have q3:=hbW.step f7.below
    have b08:Below w.heap.size w w8:=⟨b8.os.trans q3.os,b8.tape.trans q3.tape,b8.output.trans q3.output,by have:=q3.size; omega,fun k hk=>(b8.block k hk).trans (q3.block k hk)⟩
    refine rnT ?_
    refine KW.rd (k+1,ix / 2,sumS [1,b,h]) ⟨by omega,b08,hq0,Int.le_trans hq1 hx1,sum_i64 _,?_,n+1,by omega,hL8⟩
    rw [←heq,climbS,if_neg h1,if_pos h2]
   ·refine rnT ?_
    refine TW.buildSlice 3 _ rfl rfl rfl eo32 (Args.cons rfl ct (Args.cons rfl ct (Args.cons rfl ct Args.nil))) rfl rfl rfl rfl rfl ?_
    rintro g7 w7 f7
    have hg7:=f7.at_
    have hw7:=f7.size
    refine TW.call0 rfl rfl en216 rfl (Args.cons rfl ct Args.nil) (compute_c hLW f7.below (by omega) (lit_new [1,h,b] f7.blk rfl (three_i64 (low_i64 (by decide)) hhI hbI) (by simp)) (fun k hk=>by omega)) ?_
    rintro y w8 ⟨s8,b8,rfl,hL8⟩
    have q3:=hbW.step f7.below
    have b08:Below w.heap.size w w8:=⟨b8.os.trans q3.os,b8.tape.trans q3.tape,b8.output.trans q3.output,by have:=q3.size; omega,fun k hk=>(b8.block k hk).trans (q3.block k hk)⟩
    refine rnT ?_
    refine KW.rd (k+1,ix / 2,sumS [1,h,b]) ⟨by omega,b08,hq0,Int.le_trans hq1 hx1,sum_i64 _,?_,n+1,by omega,hL8⟩
    rw [←heq,climbS,if_neg h1,if_neg h2]
 ·obtain ⟨_,v,xs,hB,hO,_⟩:=hLW
  obtain ⟨VA,vc,rfl,_⟩:=hO.form
  have hdr:p.drop k= []:=List.drop_eq_nil_of_le (by omega)
  rw [hdr] at heq
  refine rnT ?_
  refine CW.draw mixed (by kernel_rfl) ?_
  refine rnD ?_
  refine DW.ld rfl (hB.cell 0) ?_
  refine rnD ?_
  refine DW.fi [1,6,7,9,10,11,34,35,36] rfl fun w9 b9=> ?_
  refine rnT ?_
  refine rt2 rfl ⟨hbW.step b9,.inl ⟨hok,VA,n,vc,by rw [←heq]; rfl⟩⟩
theorem misplaced_c (h1:kv.oneCell'=true) (h2:pv.oneCell'=true) :
  Gives Tryz.prog 70 #[.agg (shV p kv pv).toArray] w fun u w'=>Below w.heap.size w w'∧u= .bool (!dec (PlaceOK p)):=by
 refine gv (f:=70) ?_
 refine rnT ?_
 refine TW.box rfl rfl rfl rfl ?_
 rintro g1 w1 f1
 refine rnT ?_
 refine TW.ld rfl (f1.blk.fld (j:=9) rfl) ?_
 refine TW.cl rfl (hisLab_c) ?_
 rintro y w2 ⟨b2,rfl⟩
 have hB2:=f1.blk.next b2
 refine rnT ?_
 refine TW.ld rfl (hB2.fld (j:=10) rfl) ?_
 refine rnT ?_
 refine TW.ld rfl (hB2.fld (j:=4) rfl) ?_
 refine TW.callF (cap:= []) rfl rfl en137 rfl ct (Args.cons rfl id (Args.cons rfl id Args.nil)) (fun _=>below_c) ?_
 rintro w3 b3
 refine rnT ?_
 refine rt1 rfl ⟨f1.below.step (b2.step b3),?_⟩
 by_cases hp:PlaceOK p
 ·rw [dec_pos hp,dec_pos hp.1]
  have:=hp.2
  simp
  omega
 ·rw [dec_neg hp]
  by_cases hl:isLab p.label
  ·have: ¬(0≤p.idx∧p.idx<p.doc.cnt):=fun q=>hp ⟨hl,q⟩
   rw [dec_pos hl]
   simp
   omega
  ·rw [dec_neg hl]
   rfl
theorem unproved_c (h1:kv.oneCell'=true) (hp:SL intT F w pv p.path) (hs:p.label.size≤1000000) (hi:I64 p.idx) :
  Gives Tryz.prog 71 #[.agg (shV p kv pv).toArray] w fun u w'=>Below w.heap.size w w'∧u= .bool (!dec (ProofOK p)):=by
 obtain ⟨A,cap,rfl,_⟩:=hp.form
 refine gv (f:=71) ?_
 refine rnT ?_
 refine TW.box rfl rfl rfl rfl ?_
 rintro g1 w1 f1
 refine rnT ?_
 refine TW.ld rfl (f1.blk.fld (j:=9) rfl) ?_
 refine rnT ?_
 refine TW.ld rfl (f1.blk.fld (j:=10) rfl) ?_
 refine rnT ?_
 refine TW.ld rfl (f1.blk.fld (j:=11) rfl) ?_
 refine TW.cl rfl (climb_c (hp.below f1.below) hs hi) ?_
 rintro y w2 ⟨b2,hres⟩
 have hB2:=f1.blk.next b2
 rcases hres with ⟨hok,VA,n,c,rfl⟩|⟨hno,rfl⟩
 ·skip
  refine rnT ?_
  refine TW.ld rfl (hB2.fld (j:=5) rfl) ?_
  refine rnT ?_
  refine rt1 rfl ⟨f1.below.step b2,?_⟩
  by_cases hr:climbS (leafS p.label) p.idx p.path=p.doc.root
  ·rw [dec_pos ⟨hok,hr⟩]
   simp [hr]
   omega
  ·rw [dec_neg fun h=>hr h.2]
   simp [hr]
 ·skip
  refine TW.v V.move rfl ⟨ct,trivial⟩ (fun _=>trivial) ?_
  refine TW.v V.extract rfl ⟨ct,trivial⟩ (fun _=>rfl) ?_
  refine TW.v V.extract rfl ⟨ct,trivial⟩ (fun _=>rfl) ?_
  refine TW.v V.assign rfl ⟨ct,trivial⟩ (fun _=>trivial) ?_
  refine TW.v V.assign rfl ⟨ct,trivial⟩ (fun _=>trivial) ?_
  refine TW.nil (KW.pick [0,1,2,3,4] [(0,_,_),(1,_,_),(2,_,_),(3,_,_),(4,_,_)] rfl (KW.then_ ?_))
  refine CW.seq (CW.region ?_)
  refine TW.v V.move rfl ⟨ct,trivial⟩ (fun _=>trivial) ?_
  refine TW.v V.lenSlice rfl ⟨ct,trivial⟩ (fun _=>trivial) ?_
  refine TW.v V.eql rfl ⟨ct,ct,trivial⟩ (fun _=>trivial) ?_
  refine TW.v V.move rfl ⟨ct,trivial⟩ (fun _=>trivial) ?_
  refine TW.dead (.bool false) rfl (by simp [Cnd]) rfl ?_
  refine TW.dead (.bool false) rfl (by simp [Cnd]) rfl ?_
  refine TW.dead (.bool false) rfl (by simp [Cnd]) rfl ?_
  refine TW.dead (.bool false) rfl (by simp [Cnd]) rfl ?_
  refine TW.dead (.bool false) rfl (by simp [Cnd]) rfl ?_
  refine TW.dead (.bool false) rfl (by simp [Cnd]) rfl ?_
  refine rnT ?_
  refine rt1 rfl ⟨f1.below.step b2,?_⟩
  rw [dec_neg fun h=>hno h.1]
  rfl
def rawT (n:Nat):Ty (List Value) where
 n:=n
 rep:=fun _ _ cs x=>cs=x∧x.length=n
 len:=fun _ _ _ _ h=>by rw [h.1]; exact h.2
 mono:=fun _ _ _ _ _ _ h=>h
 wider:=fun _ _ _ _ _ _ h=>h
theorem raw_get {m:Nat} {ad:Addr} {cap:Nat} {l:List (List Value)} (h:SL (rawT m) F w (.slice (some ad) n cap) l) {i:Nat} {s:List Value} (hx:l[i]?=some s):(∀j u,s[j]?=some u→w.cell? ((ad.add ((i:Int).toNat*m)).add j)=some u)∧s.length=m:=by
 obtain ⟨ad',cs,h1,_,⟨rfl,g1⟩,hc⟩:=h.at hx
 cases h1
 exact ⟨hc,g1⟩
theorem raw_lit {t:TypeId} {m:Nat} (h0:0<m) (l:List (List Value)) (h:Blk w g t (l.flatMap id)) (hn:n=l.length) (hl: ∀x∈l,x.length=m) (hs:l.length≤1000000):SL (rawT m) (fun k=>k<w.heap.size) w (.slice (some ⟨g,0,none⟩) n n) l:=by
 subst hn
 have e:(l.map fun x=>(x,x)).map (·.2)=l:=by
  rw [List.map_map]
  exact List.map_id l
 have hp: ∀p∈l.map fun x=>(x,x),(rawT m).rep (fun k=>k<w.heap.size) w p.1 p.2:=fun p hp=>by
  obtain ⟨x,hx,rfl⟩:=List.mem_map.1 hp
  exact ⟨rfl,hl x hx⟩
 have hB:OwnS w t m (.slice (some ⟨g,0,none⟩) l.length l.length) l.length ((l.map fun x=>(x,x)).flatMap (·.1)):=by
  rw [List.flatMap_map]
  exact OwnS.of_blk h (by
   rw [List.length_flatMap]
   have:l.map (fun a=>a.length)=l.map (fun _=>m):=List.map_congr_left fun x hx=>hl x hx
   show (l.map fun a=>a.length).sum=_
   rw [this,List.map_const',List.sum_replicate_nat]) (by omega)
 have:=OwnS.toSLp (T:=rawT m) (F:=fun k=>k<w.heap.size) (l.map fun x=>(x,x)) hp h0 hB (by simp) (fun q hq=>by simp [Value.ownBlock] at hq; subst hq; exact h.lt) (by simp; omega)
 rw [e] at this
 exact this
def errL:List (Bool×Int)→Int
 | []=>0
 | (b,e)::r=>if b then e else errL r
theorem errL_app {pre:List (Bool×Int)} {r:List (Bool×Int)} (h: ∀q∈pre,q.1=false):errL (pre++r)=errL r:=by
 induction pre with
 | nil=>rfl
 | cons x pre ih =>
  show (if x.1=true then x.2 else errL (pre++r))=errL r
  rw [h x (by simp),if_neg (by simp)]
  exact ih fun q hq=>h q (by simp [hq])
theorem firstError_c {rs:List (Value×Bool×Int)} (h:SL (rawT 2) F w v (rs.map fun r=> [r.1,.int .i64 r.2.2])) (hone: ∀r∈rs,r.1.oneCell'=true)
 (hc: ∀pre r suf W,rs=pre++r::suf→(∀q∈pre,q.2.1=false)→Below w.heap.size w W→Thk Tryz.prog r.1 [] W fun u W'=>Below W.heap.size W W'∧u= .bool r.2.1) :
  Gives Tryz.prog 67 #[v] w fun u w'=>Below w.heap.size w w'∧u= .int .i64 (errL (rs.map (·.2))):=by
 obtain ⟨A,cap,hv,_⟩:=h.form
 rw [List.length_map] at hv
 subst hv
 have hmax:=h.len.2.2
 rw [List.length_map] at hmax
 refine gv (f:=67) ?_
 refine rnT ?_
 refine CW.lp [5,6] (fun i:Nat=> [(7,none,.int .i64 (i:Int))])
  (fun i W=>i≤rs.length∧Below w.heap.size w W∧ ∀q∈rs.take i,q.2.1=false) (fun i=>rs.length-i) 0 ⟨Nat.zero_le _,Below.refl _ _,by simp⟩ ?_
 rintro i W ⟨hi,hB,hno⟩
 refine rnT ?_
 refine CW.condP rfl (fun hlt=> ?_) (fun hge=> ?_)
 ·obtain ⟨r,hr,hrm⟩:=getx (l:=rs) (k:=i) (by omega)
  obtain ⟨hil,hie⟩:=List.getElem?_eq_some_iff.1 hr
  have hW:=h.below hB
  obtain ⟨ad,rfl⟩:=hW.addr (by rw [List.length_map]; omega)
  have hx:(rs.map fun r=> [r.1,Value.int .i64 r.2.2])[i]?=some [r.1,.int .i64 r.2.2]:=by rw [List.getElem?_map,hr]; rfl
  have hcx:=(raw_get hW hx).1
  refine rnT ?_
  refine TW.ldS rfl (fun j u hj=>hcx j u hj) ?_
  refine TW.newVar rfl zc120 rfl sz120 rfl (by rw [List.all_cons,hone r hrm]; rfl) ?_
  rintro g4 w4 f4
  refine rnT ?_
  have hb4:=hB.step f4.below
  obtain ⟨k,fst,cp,hv,hen,hg⟩:=hc (rs.take i) r (rs.drop (i+1)) w4 (by rw [←hie,←List.drop_eq_getElem_cons hil,List.take_append_drop]) hno hb4
  refine TW.ld rfl (f4.blk.fld (j:=0) (congrArg some hv)) ?_
  refine TW.callB rfl rfl hen rfl Args.nil hg ?_
  rintro u w5 ⟨b5,rfl⟩
  refine rnT ?_
  have hb5:=hb4.step b5
  refine CW.cond rfl (fun hyes=> ?_) (fun hnot=> ?_)
  ·refine rnT ?_
   refine TW.ld rfl ((f4.blk.next b5).fld (j:=1) rfl) ?_
   refine rnT ?_
   refine rt1 rfl ⟨hb5,?_⟩
   have e:rs=rs.take i++r::rs.drop (i+1):=by rw [←hie,←List.drop_eq_getElem_cons hil,List.take_append_drop]
   rw [e,List.map_append,errL_app fun q hq=> ?_]
   ·rw [List.map_cons]
    unfold errL
    rw [if_pos hyes]
   ·obtain ⟨z,hz,rfl⟩:=List.mem_map.1 hq
    exact hno z hz
  ·refine rnT ?_
   refine KW.rd (i+1) ⟨by omega,hb5,fun q hq=> ?_⟩
   rw [List.take_add_one,hr] at hq
   rcases List.mem_append.1 hq with hq|hq
   ·exact hno q hq
   ·simp at hq
    subst hq
    simpa using hnot
 ·refine rnT ?_
  refine rt1 rfl ⟨hB,?_⟩
  rw [List.take_of_length_le (by omega)] at hno
  have:=errL_app (pre:=rs.map (·.2)) (r:= []) fun q hq=>by
   obtain ⟨z,hz,rfl⟩:=List.mem_map.1 hq
   exact hno z hz
  rw [List.append_nil] at this
  rw [this]
  rfl
theorem Blk.subp {t:TypeId} {cs:List Value} (h:Blk w g t cs) (k:Nat) (ds r:List Value) (hk:cs.drop k=ds++r): ∀j v,ds[j]?=some v→w.cell? ((Addr.add ⟨g,0,none⟩ k).add j)=some v:=fun j v hj=>Blk.sub h k (ds++r) hk j v (by rw [List.getElem?_append_left (List.getElem?_eq_some_iff.1 hj).1]; exact hj)
theorem ver_err:errL [(!dec (DocOK ks p.doc),1),(!dec (SignOK ks p.doc),330),(!dec (PlaceOK p),1),(!dec (ProofOK p),190)]=verS ks p:=by
 unfold verS errL errL errL errL errL
 by_cases h1:DocOK ks p.doc
 ·rw [dec_pos h1,if_neg (not_not_intro h1)]
  by_cases h2:SignOK ks p.doc
  ·rw [dec_pos h2,if_neg (not_not_intro h2)]
   by_cases h3:PlaceOK p
   ·rw [dec_pos h3,if_neg (not_not_intro h3)]
    by_cases h4:ProofOK p
    ·rw [dec_pos h4,if_neg (not_not_intro h4)]
     rfl
    ·rw [dec_neg h4,if_pos h4]
     rfl
   ·rw [dec_neg h3,if_pos h3]
    rfl
  ·rw [dec_neg h2,if_pos h2]
   rfl
 ·rw [dec_neg h1,if_pos h1]
  rfl
theorem verify_c {G:Nat→Prop} (hk:SL intT F w kv ks) (hp:SL intT G w pv p.path) (hd:DcOK p.doc) (hi:I64 p.idx) :
  Gives Tryz.prog 25 #[kv,.agg (ppV p pv).toArray] w fun u w'=>Below w.heap.size w w'∧u= .int .i64 (verS ks p):=by
 obtain ⟨KA,kc,rfl,_⟩:=hk.form
 obtain ⟨PA,pc,rfl,_⟩:=hp.form
 refine gv (f:=25) ?_
 refine rnT ?_
 refine TW.box rfl rfl rfl rfl ?_
 rintro g1 w1 f1
 refine rnT ?_
 have hB1:=f1.blk
 refine TW.ldS rfl (fun j u hj=>Blk.subp hB1 0 (dcV p.doc) _ rfl j u hj) ?_
 refine rnT ?_
 refine TW.build [0,1] _ (sgV p.doc (.slice KA ks.length kc)) rfl rfl rfl (Args.cons rfl ct (Args.cons rfl ct Args.nil)) (by kernel_rfl) ?_
 refine rnT ?_
 refine TW.ld rfl (hB1.fld (j:=8) rfl) ?_
 refine rnT ?_
 refine TW.ldS rfl (fun j u hj=>Blk.subp hB1 9 [.int .i64 p.idx,.slice PA p.path.length pc] [] rfl j u hj) ?_
 refine TW.build [0,1,2] _ (shV p (.slice KA ks.length kc) (.slice PA p.path.length pc)) rfl rfl rfl (Args.cons rfl ct (Args.cons rfl ct (Args.cons rfl ct Args.nil))) (by kernel_rfl) ?_
 refine TW.newVar rfl zc117 rfl sz117 rfl rfl ?_
 rintro g5 w5 f5
 refine rnT ?_
 have hB5:=f5.blk
 refine TW.ldS rfl (fun j u hj=>Blk.subp hB5 0 (sgV p.doc (.slice KA ks.length kc)) _ rfl j u hj) ?_
 refine TW.makeFuncB rfl rfl (Args.cons rfl ct Args.nil) Args.nil ?_
 refine TW.build [0,1] _ [.func (.func 68) #[.agg (sgV p.doc (.slice KA ks.length kc)).toArray] #[],.int .i64 1] rfl rfl rfl (Args.cons rfl ct (Args.cons rfl ct Args.nil)) (by kernel_rfl) ?_
 refine rnT ?_
 refine TW.ldS rfl (fun j u hj=>Blk.subp hB5 0 (sgV p.doc (.slice KA ks.length kc)) _ rfl j u hj) ?_
 refine TW.makeFuncB rfl rfl (Args.cons rfl ct Args.nil) Args.nil ?_
 refine TW.build [0,1] _ [.func (.func 69) #[.agg (sgV p.doc (.slice KA ks.length kc)).toArray] #[],.int .i64 330] rfl rfl rfl (Args.cons rfl ct (Args.cons rfl ct Args.nil)) (by kernel_rfl) ?_
 refine TW.ldS rfl (fun _ _ hv=>hB5.fld hv) ?_
 refine TW.makeFuncB rfl rfl (Args.cons rfl ct Args.nil) Args.nil ?_
 refine TW.build [0,1] _ [.func (.func 70) #[.agg (shV p (.slice KA ks.length kc) (.slice PA p.path.length pc)).toArray] #[],.int .i64 1] rfl rfl rfl (Args.cons rfl ct (Args.cons rfl ct Args.nil)) (by kernel_rfl) ?_
 refine TW.ldS rfl (fun _ _ hv=>hB5.fld hv) ?_
 refine TW.makeFuncB rfl rfl (Args.cons rfl ct Args.nil) Args.nil ?_
 refine TW.build [0,1] _ [.func (.func 71) #[.agg (shV p (.slice KA ks.length kc) (.slice PA p.path.length pc)).toArray] #[],.int .i64 190] rfl rfl rfl (Args.cons rfl ct (Args.cons rfl ct Args.nil)) (by kernel_rfl) ?_
 refine TW.buildSlice 120 _ rfl rfl rfl eo202 (Args.cons rfl ct (Args.cons rfl ct (Args.cons rfl ct (Args.cons rfl ct Args.nil)))) rfl rfl rfl rfl rfl ?_
 rintro g6 w6 f6
 have b6:=f1.below.step (f5.below.step f6.below)
 have hk6:=hk.below b6
 have hp6:=hp.below b6
 have hS:=raw_lit (m:=2) (by decide) [[.func (.func 68) #[.agg (sgV p.doc (.slice KA ks.length kc)).toArray] #[],.int .i64 1],[.func (.func 69) #[.agg (sgV p.doc (.slice KA ks.length kc)).toArray] #[],.int .i64 330],[.func (.func 70) #[.agg (shV p (.slice KA ks.length kc) (.slice PA p.path.length pc)).toArray] #[],.int .i64 1],[.func (.func 71) #[.agg (shV p (.slice KA ks.length kc) (.slice PA p.path.length pc)).toArray] #[],.int .i64 190]] f6.blk rfl (by simp) (by simp)
 obtain ⟨rs,hrs⟩: ∃rs:List (Value×Bool×Int),rs= [(.func (.func 68) #[.agg (sgV p.doc (.slice KA ks.length kc)).toArray] #[],!dec (DocOK ks p.doc),1),(.func (.func 69) #[.agg (sgV p.doc (.slice KA ks.length kc)).toArray] #[],!dec (SignOK ks p.doc),330),(.func (.func 70) #[.agg (shV p (.slice KA ks.length kc) (.slice PA p.path.length pc)).toArray] #[],!dec (PlaceOK p),1),(.func (.func 71) #[.agg (shV p (.slice KA ks.length kc) (.slice PA p.path.length pc)).toArray] #[],!dec (ProofOK p),190)]:=⟨_,rfl⟩
 have hcc: ∀pre r suf W,rs=pre++r::suf→(∀q∈pre,q.2.1=false)→Below w6.heap.size w6 W→Thk Tryz.prog r.1 [] W fun u W'=>Below W.heap.size W W'∧u= .bool r.2.1:=by
  intro pre r suf W hcut hpre hbW
  have hkW:=hk6.below hbW
  have hpW:=hp6.below hbW
  rw [hrs] at hcut
  have isT: ∀ {b:Bool},(!b)=false→b=true:=fun h=>by simpa using h
  rcases pre with _|⟨a1,_|⟨a2,_|⟨a3,_|⟨a4,pre⟩⟩⟩⟩<;>simp at hcut
  ·obtain ⟨rfl,_⟩:=hcut
   exact ⟨_,[_],[],rfl,en68,malformed_c hkW hd⟩
  ·obtain ⟨rfl,rfl,_⟩:=hcut
   have h1:=dec_iff.1 (isT (hpre _ (.head _)))
   exact ⟨_,[_],[],rfl,en69,forged_c hkW hd h1⟩
  ·obtain ⟨rfl,rfl,rfl,_⟩:=hcut
   exact ⟨_,[_],[],rfl,en70,misplaced_c rfl rfl⟩
  ·obtain ⟨rfl,rfl,rfl,rfl,_⟩:=hcut
   have h3:=dec_iff.1 (isT (hpre _ (.tail _ (.tail _ (.head _)))))
   exact ⟨_,[_],[],rfl,en71,unproved_c rfl hpW (by have:=h3.1.2.1; omega) hi⟩
 refine TW.cl rfl (firstError_c (rs:=rs) (by rw [hrs]; exact hS) (by rw [hrs]; simp [Value.oneCell']) hcc) ?_
 rintro y w7 ⟨b7,rfl⟩
 refine rnT ?_
 refine rt1 rfl ⟨b6.step b7,by rw [hrs,←ver_err]; rfl⟩
theorem passes_c {PA:Option Addr} {pc:Nat} {rs:List (Value×Bool)} (h:SL (rawT 1) F w v (rs.map fun r=> [r.1]))
 (hc: ∀r∈rs,∀W,Below w.heap.size w W→Thk Tryz.prog r.1 [.agg (ppV p (.slice PA p.path.length pc)).toArray] W fun u W'=>Below W.heap.size W W'∧u= .bool r.2) :
  Gives Tryz.prog 51 #[.agg (ppV p (.slice PA p.path.length pc)).toArray,v] w fun u w'=>Below w.heap.size w w'∧u= .bool (rs.all (·.2)):=by
 obtain ⟨A,cap,hv,_⟩:=h.form
 rw [List.length_map] at hv
 subst hv
 have hmax:=h.len.2.2
 rw [List.length_map] at hmax
 refine gv (f:=51) ?_
 refine rnT ?_
 refine TW.box rfl rfl rfl rfl ?_
 rintro g2 w2 f2
 refine rnT ?_
 refine CW.lp [2,7,8] (fun i:Nat=> [(9,none,.int .i64 (i:Int))])
  (fun i W=>i≤rs.length∧Below w2.heap.size w2 W∧(rs.take i).all (·.2)=true) (fun i=>rs.length-i) 0 ⟨Nat.zero_le _,Below.refl _ _,rfl⟩ ?_
 rintro i W ⟨hi,hB,hall⟩
 refine rnT ?_
 have hb:=f2.below.step hB
 refine CW.condP rfl (fun hlt=> ?_) (fun hge=> ?_)
 ·obtain ⟨r,hr,hrm⟩:=getx (l:=rs) (k:=i) (by omega)
  have hW:=h.below hb
  obtain ⟨ad,rfl⟩:=hW.addr (by rw [List.length_map]; omega)
  have hx:(rs.map fun r=> [r.1])[i]?=some [r.1]:=by rw [List.getElem?_map,hr]; rfl
  have hcx:=(raw_get hW hx).1 0 r.1 rfl
  obtain ⟨k,fst,cp,hv,hen,hg⟩:=hc r hrm W hb
  rw [hv] at hcx
  have hBW:=f2.blk.next hB
  refine rnT ?_
  refine TW.ld rfl hcx ?_
  refine rnT ?_
  refine TW.ldS rfl (fun _ _ hv=>hBW.fld hv) ?_
  refine TW.callB rfl rfl hen rfl (Args.cons rfl ct Args.nil) hg ?_
  rintro u w5 ⟨b5,rfl⟩
  refine rnT ?_
  refine CW.pk [2,6,7,8,9,16] rfl ?_
  refine CW.cond rfl (fun hyes=> ?_) (fun hnot=> ?_)
  ·refine rnT ?_
   refine rt1 rfl ⟨hb.step b5,?_⟩
   cases hq:rs.all (·.2) with
   | false=>rfl
   | true =>
    have:=List.all_eq_true.1 hq r hrm
    rw [this] at hyes
    cases hyes
  ·refine rnT ?_
   refine KW.rd (i+1) ⟨by omega,hB.step b5,?_⟩
   rw [List.take_add_one,hr,List.all_append,hall]
   simpa using hnot
 ·refine rnT ?_
  refine rt1 rfl ⟨hb,?_⟩
  rw [List.take_of_length_le (by omega)] at hall
  rw [hall]
theorem exc1_c (h:Blk w g 9 [.string lab]) (h1:pv.oneCell'=true):Gives Tryz.prog 52 #[.agg (ppV p pv).toArray,.pointer (some ⟨g,0,none⟩)] w fun u w'=>Below w.heap.size w w'∧u= .bool (decide (p.label=lab)):=by
 refine gv (f:=52) ?_
 refine rnT ?_
 refine TW.box rfl rfl rfl rfl ?_
 rintro g2 w2 f2
 refine rnT ?_
 refine TW.ld rfl (f2.blk.fld (j:=8) rfl) ?_
 refine TW.ld rfl ((h.next f2.below).cell 0) ?_
 refine rnT ?_
 refine rt1 rfl ⟨f2.below,by rw [beqL]⟩
theorem exc2_c (h:Blk w g 3 [.int .i64 op]) (h1:pv.oneCell'=true):Gives Tryz.prog 53 #[.agg (ppV p pv).toArray,.pointer (some ⟨g,0,none⟩)] w fun u w'=>Below w.heap.size w w'∧u= .bool (decide (p.doc.fr=op∧p.doc.to≠op)):=by
 refine gv (f:=53) ?_
 refine rnT ?_
 refine TW.box rfl rfl rfl rfl ?_
 rintro g2 w2 f2
 refine rnT ?_
 refine TW.ld rfl (f2.blk.fld (j:=1) rfl) ?_
 refine TW.ld rfl ((h.next f2.below).cell 0) ?_
 refine rnT ?_
 refine TW.ld rfl (f2.blk.fld (j:=2) rfl) ?_
 refine TW.ld rfl ((h.next f2.below).cell 0) ?_
 refine rnT ?_
 refine rt1 rfl ⟨f2.below,by simp⟩
theorem exc3_c (h:Blk w g 3 [.int .i64 t]) (h1:pv.oneCell'=true):Gives Tryz.prog 54 #[.agg (ppV p pv).toArray,.pointer (some ⟨g,0,none⟩)] w fun u w'=>Below w.heap.size w w'∧u= .bool (decide (p.doc.time≤t)):=by
 refine gv (f:=54) ?_
 refine rnT ?_
 refine TW.box rfl rfl rfl rfl ?_
 rintro g2 w2 f2
 refine rnT ?_
 refine TW.ld rfl (f2.blk.fld (j:=3) rfl) ?_
 refine TW.ld rfl ((h.next f2.below).cell 0) ?_
 refine rnT ?_
 refine rt1 rfl ⟨f2.below,rfl⟩
theorem exc4_c {G:Nat→Prop} (h:Blk w g 32 [kv]) (hk:SL intT F w kv ks) (hp:SL intT G w pv p.path) (hd:DcOK p.doc) (hi:I64 p.idx):Gives Tryz.prog 55 #[.agg (ppV p pv).toArray,.pointer (some ⟨g,0,none⟩)] w fun u w'=>Below w.heap.size w w'∧u= .bool (decide (verS ks p=0)):=by
 obtain ⟨PA,pc,rfl,_⟩:=hp.form
 obtain ⟨KA,kc,rfl,_⟩:=hk.form
 refine gv (f:=55) ?_
 refine rnT ?_
 refine TW.box rfl rfl rfl rfl ?_
 rintro g2 w2 f2
 refine rnT ?_
 refine TW.ld rfl ((h.next f2.below).cell 0) ?_
 refine TW.ldS rfl (fun _ _ hv=>f2.blk.fld hv) ?_
 refine TW.cl rfl (verify_c (hk.below f2.below) (hp.below f2.below) hd hi) ?_
 rintro y w3 ⟨b3,rfl⟩
 refine rnT ?_
 refine rt1 rfl ⟨f2.below.step b3,rfl⟩
def ppT:Ty Pp where
 n:=11
 rep:=fun F w cs p=> ∃pv,cs=ppV p pv∧DcOK p.doc∧I64 p.idx∧SL intT F w pv p.path
 len:=fun _ _ _ _ h=>by obtain ⟨v,h,_⟩:=h; rw [h]; rfl
 mono:=fun _ _ _ _ _ hk h=>by obtain ⟨v,h,h1,h2,hs⟩:=h; exact ⟨v,h,h1,h2,hs.mono hk⟩
 wider:=fun _ _ _ _ _ hF h=>by obtain ⟨v,h,h1,h2,hs⟩:=h; exact ⟨v,h,h1,h2,hs.wider hF⟩
theorem ppT_now:Ty.Now ppT:=⟨by decide,fun F w cs e ⟨v,h,h1,h2,hs⟩=>⟨v,h,h1,h2,hs.now intT_now⟩⟩
abbrev SPp (w:World) (v:Value) (l:List Pp):Prop:=SL ppT (fun k=>k<w.heap.size) w v l
theorem spp_step {w':World} {l:List Pp} (h:SPp w v l) (hb:Below w.heap.size w w'):SPp w' v l:=h.step ppT_now hb
theorem SPp.get {ad:Addr} {cap:Nat} {l:List Pp} (h:SL ppT F w (.slice (some ad) n cap) l) {i:Nat} (hx:l[i]?=some p) :
  ∃ v,(∀j u,(ppV p v)[j]?=some u→w.cell? ((ad.add ((i:Int).toNat*11)).add j)=some u)∧DcOK p.doc∧I64 p.idx∧SL intT F w v p.path:=by
 obtain ⟨ad',cs,h1,_,⟨v,rfl,g1,g2,hs⟩,hc⟩:=h.at hx
 cases h1
 exact ⟨v,hc,g1,g2,hs⟩
theorem frees_bool:(decide (p.label=lab)&&(decide (p.doc.fr=op∧p.doc.to≠op)&&(decide (p.doc.time≤t)&&(decide (verS ks p=0)&&true))))=dec (Frees ks lab op t p):=by
 by_cases h:Frees ks lab op t p
 ·rw [dec_pos h]
  obtain ⟨h1,h2,h3,h4,h5⟩:=h
  simp [h1,h2,h3,h4,h5]
 ·rw [dec_neg h,Bool.eq_false_iff]
  intro hq
  simp only [Bool.and_eq_true,decide_eq_true_eq,and_true] at hq
  exact h ⟨hq.1,hq.2.1.1,hq.2.1.2,hq.2.2.1,hq.2.2.2⟩
theorem excused_c (hk:SL intT F w kv ks) (hps:SPp w psv ps) :
  Gives Tryz.prog 18 #[kv,psv,.string lab,.int .i64 op,.int .i64 t] w fun u w'=>Below w.heap.size w w'∧u= .bool (dec (Exc ks ps lab op t)):=by
 obtain ⟨KA,kc,rfl,_⟩:=hk.form
 obtain ⟨A,cap,rfl,_⟩:=hps.form
 have hmax:=hps.len.2.2
 refine gv (f:=18) ?_
 refine rnT ?_
 refine TW.box rfl rfl rfl rfl ?_
 rintro g5 w1 f1
 refine TW.box rfl rfl rfl rfl ?_
 rintro g7 w2 f2
 refine TW.box rfl rfl rfl rfl ?_
 rintro g8 w3 f3
 refine TW.box rfl rfl rfl rfl ?_
 rintro g9 w4 f4
 refine rnT ?_
 have b34:=f4.below
 have b24:=f3.below.step b34
 have b14:=f2.below.step b24
 have b4:=f1.below.step b14
 have hB5:=f1.blk.next b14
 have hB7:=f2.blk.next b24
 have hB8:=f3.blk.next b34
 have hB9:=f4.blk
 refine CW.condP rfl (fun hbig=> ?_) (fun hsmall=> ?_)
 ·refine rnT ?_
  refine rt1 rfl ⟨b4,by rw [dec_neg fun h=>by have:=h.1; omega]⟩
 have h100:ps.length≤100:=by omega
 refine rnT ?_
 refine CW.lp [5,7,8,9,16,17] (fun i:Nat=> [(18,none,.int .i64 (i:Int))])
  (fun i W=>i≤ps.length∧Below w4.heap.size w4 W∧ ∀p∈ps.take i,¬Frees ks lab op t p) (fun i=>ps.length-i) 0 ⟨Nat.zero_le _,Below.refl _ _,by simp⟩ ?_
 rintro i W ⟨hi,hB,hno⟩
 have hb:=b4.step hB
 refine rnT ?_
 refine CW.condP rfl (fun hlt=> ?_) (fun hge=> ?_)
 ·obtain ⟨p,hp,hpm⟩:=getx (l:=ps) (k:=i) (by omega)
  have hW:=spp_step hps hb
  obtain ⟨ad,rfl⟩:=hW.addr (by omega)
  obtain ⟨pv,hcells,hd,hix,hpath⟩:=SPp.get hW hp
  obtain ⟨PA,pc,rfl,_⟩:=hpath.form
  refine rnT ?_
  refine TW.ldS rfl (fun j u hj=>hcells j u hj) ?_
  refine TW.newVar rfl zc67 rfl sz67 rfl rfl ?_
  rintro g12 w6 f6
  refine rnT ?_
  have hb6:=hB.step f6.below
  have b6:=hb.step f6.below
  refine TW.ldS rfl (fun _ _ hv=>f6.blk.fld hv) ?_
  refine TW.makeFunc rfl rfl (Args.cons rfl ct Args.nil) ?_
  refine TW.makeFunc rfl rfl (Args.cons rfl ct Args.nil) ?_
  refine TW.makeFunc rfl rfl (Args.cons rfl ct Args.nil) ?_
  refine TW.makeFunc rfl rfl (Args.cons rfl ct Args.nil) ?_
  refine TW.buildSlice 175 _ rfl rfl rfl eo174 (Args.cons rfl ct (Args.cons rfl ct (Args.cons rfl ct (Args.cons rfl ct Args.nil)))) rfl rfl rfl rfl rfl ?_
  rintro g27 w7 f7
  have hb7:=hb6.step f7.below
  have b7:=b6.step f7.below
  obtain ⟨rs,hrs⟩: ∃rs:List (Value×Bool),rs= [(.func (.func 52) #[] #[.pointer (some ⟨g7,0,none⟩)],decide (p.label=lab)),(.func (.func 53) #[] #[.pointer (some ⟨g8,0,none⟩)],decide (p.doc.fr=op∧p.doc.to≠op)),(.func (.func 54) #[] #[.pointer (some ⟨g9,0,none⟩)],decide (p.doc.time≤t)),(.func (.func 55) #[] #[.pointer (some ⟨g5,0,none⟩)],decide (verS ks p=0))]:=⟨_,rfl⟩
  have hS:=raw_lit (m:=1) (by decide) [[.func (.func 52) #[] #[.pointer (some ⟨g7,0,none⟩)]],[.func (.func 53) #[] #[.pointer (some ⟨g8,0,none⟩)]],[.func (.func 54) #[] #[.pointer (some ⟨g9,0,none⟩)]],[.func (.func 55) #[] #[.pointer (some ⟨g5,0,none⟩)]]] f7.blk rfl (by simp) (by simp)
  have hp7:SL intT (fun k=>k<W.heap.size) w7 (.slice PA p.path.length pc) p.path:=hpath.below (f6.below.step f7.below)
  have hk7:=hk.below b7
  have hcc: ∀r∈rs,∀W2,Below w7.heap.size w7 W2→Thk Tryz.prog r.1 [.agg (ppV p (.slice PA p.path.length pc)).toArray] W2 fun u W'=>Below W2.heap.size W2 W'∧u= .bool r.2:=by
   intro r hr W2 hbW
   have hb2:=hb7.step hbW
   rw [hrs] at hr
   simp only [List.mem_cons,List.not_mem_nil,or_false] at hr
   rcases hr with rfl|rfl|rfl|rfl
   ·exact ⟨_,[],[_],rfl,en52,exc1_c (hB7.next hb2) rfl⟩
   ·exact ⟨_,[],[_],rfl,en53,exc2_c (hB8.next hb2) rfl⟩
   ·exact ⟨_,[],[_],rfl,en54,exc3_c (hB9.next hb2) rfl⟩
   ·exact ⟨_,[],[_],rfl,en55,exc4_c (hB5.next hb2) (hk7.below hbW) (hp7.below hbW) hd hix⟩
  refine TW.cl rfl (passes_c (rs:=rs) (by rw [hrs]; exact hS) hcc) ?_
  rintro y w8 ⟨b8,rfl⟩
  have hall:rs.all (·.2)=dec (Frees ks lab op t p):=by rw [hrs]; exact frees_bool
  rw [hall]
  refine rnT ?_
  refine CW.pk [5,7,8,9,12,16,17,18,28] rfl ?_
  refine CW.cond rfl (fun hyes=> ?_) (fun hnot=> ?_)
  ·refine rnT ?_
   refine rt1 rfl ⟨b7.step b8,by rw [dec_pos ⟨h100,p,hpm,dec_iff.1 hyes⟩]⟩
  ·refine rnT ?_
   refine KW.rd (i+1) ⟨by omega,hb7.step b8,fun q hq=> ?_⟩
   rw [List.take_add_one,hp] at hq
   rcases List.mem_append.1 hq with hq|hq
   ·exact hno q hq
   ·simp at hq
    subst hq
    intro hf
    rw [dec_pos hf] at hnot
    cases hnot
 ·refine rnT ?_
  refine rt1 rfl ⟨hb,?_⟩
  rw [List.take_of_length_le (by omega)] at hno
  rw [dec_neg]
  rintro ⟨_,p,hp,hf⟩
  exact hno p hp hf
def KeysAre (w:World) (b:Nat) (S:Int→Prop):Prop:= ∃m,MapL intK w b m∧ ∀x,x∈m.map (·.1)↔S x
theorem kept_map {W:World} {b:Nat} {m:List (Int×Value)} (hm:MapL intK w b m) (hB:But b w W):Kept F w W:=fun p v _ hc=>by
 by_cases e:p.block=b
 ·obtain ⟨⟨es,cl,hh,_⟩,_⟩:=hm
  unfold World.cell? at hc
  rw [e,hh] at hc
  cases hc
 ·exact (World.cell?_of_block (hB.block p.block (block_lt_of_cell hc) (fun h=>e (by cases h; rfl)))).trans hc
theorem poss_len:(possS N d l ws t).length≤52:=by
 unfold possS
 split
 ·rename_i h
  have hp:PossOK N d l ws.length t:=dec_iff.1 h
  have h1:=hp.sound.cons.offs.few
  have h2:=hp.sound.cons.lines.few
  unfold spotsS
  rw [List.length_map]
  have:=List.length_filter_le (fun p=>canB d (restsS l ws) p.2) (plsS N t)
  have:=plsS_len N t
  omega
 ·simp
theorem hold_rng {x:Int} (h:x∈holdS N d l ws t):0≤x∧x≤6:=by
 obtain ⟨s,hs,rfl⟩:=hold_mem.1 h
 have hp:PossOK N d l ws.length t:=by
  unfold possS at hs
  split at hs
  ·rename_i hq
   exact dec_iff.1 hq
  ·cases hs
 have hr:=own_rng hp.sound.cons (poss_ok.1 s hs)
 have:=hp.sound.cons.ops.few
 omega
theorem holders_c {v:NV} (ht:Tabs w) (hN:NetAt w v N) (hd:SD w dv d) (hl:SE w lv l) (hS:SD w wv ws) (hne: ∀e∈l,e.needs.length≤1000000) :
  Gives Tryz.prog 16 #[.agg v.cells.toArray,dv,lv,wv,.int .i64 t] w fun u w'=>Below w.heap.size w w'∧SI w' u (holdS N d l ws t):=by
 have hform:=NetIn.form hN
 have hone:(v.cells.all fun x=>x.oneCell')=true:=by
  obtain ⟨⟨A1,c1,e1⟩,⟨A2,c2,e2⟩,⟨A3,c3,e3⟩,⟨A4,c4,e4⟩,⟨A5,c5,e5⟩,⟨A6,c6,e6⟩⟩:=hform
  simp only [NV.cells,e1,e2,e3,e4,e5,e6]
  rfl
 refine gv (f:=16) ?_
 refine rnT ?_
 refine TW.box rfl rfl rfl rfl ?_
 rintro g5 w1 f1
 refine rnT ?_
 refine TW.makeMapL intK rfl rfl ?_
 rintro b w2 hbw hw2 hb2 hM2
 refine rnT ?_
 have b2:=f1.below.step hb2
 have hV2:=f1.blk.next hb2
 refine TW.ldS rfl (fun _ _ hv=>hV2.fld hv) ?_
 refine rnT ?_
 refine TW.cl rfl (possible_c (ht.below b2) (net_step hN b2) (sd_step hd b2) (se_step hl b2) (sd_step hS b2) hne) ?_
 rintro y w3 ⟨b3,hP3⟩
 have hM3:=hM2.below b3
 have hV3:=hV2.next b3
 have c3:=b2.step b3
 have hg5:=f1.at_
 have hw1:=f1.size
 have hs3:=b3.size
 obtain ⟨A,cap,rfl,_⟩:=hP3.form
 have hmax:=hP3.len.2.2
 obtain ⟨P,hPe⟩: ∃P,P=possS N d l ws t:=⟨_,rfl⟩
 rw [←hPe] at hP3 hmax ⊢
 refine rnT ?_
 refine CW.lp [5,11,22,23] (fun i:Nat=> [(24,none,.int .i64 (i:Int))])
  (fun i W=>i≤P.length∧But b w3 W∧w3.heap.size≤W.heap.size∧KeysAre W b (fun x=> ∃s∈P.take i,ownS N s=x)) (fun i=>P.length-i) 0 ⟨Nat.zero_le _,But.of_below (Below.refl _ _),Nat.le_refl _,[],hM3,by simp⟩ ?_
 rintro i W ⟨hi,hbut,hsz,m,hm,hmk⟩
 have hbW:Below w1.heap.size w1 W:=But.below (hb2.step b3) hbut (by omega)
 have hbW0:=f1.below.step hbW
 refine rnT ?_
 refine CW.condP rfl (fun hlt=> ?_) (fun hge=> ?_)
 ·obtain ⟨s,hs,hsm⟩:=getx (l:=P) (k:=i) (by omega)
  have hPW:SPs W (.slice A P.length cap) P:=(hP3.mono (kept_map hM3 hbut)).wider fun k hk=>by omega
  obtain ⟨ad,rfl⟩:=hPW.addr (by omega)
  have hcx:=(SPs.get hPW hs).1
  have hVW:=hbut.blk hV3 (by omega)
  refine rnT ?_
  refine TW.ldS rfl (fun j u hj=>hcx j u hj) ?_
  refine TW.newVar rfl zc58 rfl sz58 rfl rfl ?_
  rintro g13 w4 f4
  refine rnT ?_
  have hV4:=hVW.next f4.below
  have b4:=hbW0.step f4.below
  refine TW.ldS rfl (fun _ _ hv=>hV4.fld hv) ?_
  refine TW.ldS rfl (fun _ _ hv=>f4.blk.fld hv) ?_
  refine TW.cl rfl (owner_c (s:=s) (ht.below b4) (net_step hN b4)) ?_
  rintro y w5 ⟨b5,rfl⟩
  have hm5:=(hm.below f4.below).below b5
  refine TW.mapUpdateL intK (ownS N s) (vz:= .bool true) rfl Tryz.underlying93 rfl rfl rfl hm5 ?_
  rintro w6 hs6 hbut6 hM6
  refine rnT ?_
  have s4:=f4.size
  have a4:=f4.at_
  have s5:=b5.size
  refine KW.rd (i+1) ⟨by omega,((hbut.step f4.below).step b5).trans hbut6,by omega,_,hM6,fun x=> ?_⟩
  have hmk':=hmk x
  rw [List.mem_map] at hmk' ⊢
  rw [List.take_add_one,hs]
  constructor
  ·rintro ⟨p,hp,rfl⟩
   rcases mem_lput.1 hp with rfl|⟨h,_⟩
   ·exact ⟨s,by simp,rfl⟩
   ·obtain ⟨z,hz,e⟩:=hmk'.1 ⟨p,h,rfl⟩
    exact ⟨z,List.mem_append_left _ hz,e⟩
  ·rintro ⟨z,hz,e⟩
   by_cases hx:x=ownS N s
   ·exact ⟨_,mem_lput.2 (.inl rfl),hx.symm⟩
   ·rcases List.mem_append.1 hz with hz|hz
    ·obtain ⟨p,hp,e2⟩:=hmk'.2 ⟨z,hz,e⟩
     exact ⟨p,mem_lput.2 (.inr ⟨hp,by rw [e2]; exact hx⟩),e2⟩
    ·simp at hz
     subst hz
     exact absurd e.symm hx
 ·have hkeys: ∀x,x∈m.map (·.1)↔x∈holdS N d l ws t:=fun x=>by
   rw [hmk x,hold_mem,←hPe,List.take_of_length_le (by omega)]
  have hsub: ∀pre:List Int,pre.Nodup→(∀y∈pre,y∈m.map (·.1))→pre.length≤52:=fun pre hn hs=>by
   have h1:=nodup_len (l:=pre) (k:=P.map (ownS N)) hn fun x hx=>by
    obtain ⟨s,hs,e⟩:=(hmk x).1 (hs x hx)
    exact List.mem_map.2 ⟨s,List.mem_of_mem_take hs,e⟩
   rw [List.length_map,hPe] at h1
   have:=poss_len (N:=N) (d:=d) (l:=l) (ws:=ws) (t:=t)
   omega
  refine rnT ?_
  refine TW.rangeM intK rfl rfl Tryz.underlying93 rfl hm ?_
  rintro it w5 hit hw5 hb5 hwk
  refine rnT ?_
  have b05:=hbW0.step hb5
  refine CW.lp [34] (fun x:List Int×Value×Option (Int×Value)=> [(14,none,x.2.1)])
   (fun x W'=>WalkM intK W' it b m x.1 x.2.2∧OwnS W' 3 1 x.2.1 x.1.length (x.1.map (Value.int .i64))∧Below w.heap.size w W'∧w5.heap.size≤W'.heap.size∧(∀q,x.2.1.ownBlock=some q→w5.heap.size≤q)∧x.1.Nodup∧ ∀y∈x.1,y∈m.map (·.1))
   (fun x=>m.length-x.1.length) ([],.slice none 0 0,none) ⟨hwk,OwnS.nil _ _ _,b05,Nat.le_refl _,fun q hq=>by simp [Value.ownBlock] at hq,List.nodup_nil,fun y hy=>by cases hy⟩ ?_
  rintro ⟨pre,vf,lst⟩ W1 ⟨hwk1,hO,hbW1,hsz1,hfr,hnd,hsub1⟩
  dsimp only at hwk1 hO hbW1 hsz1 hfr hnd hsub1
  have hlen:=hsub pre hnd hsub1
  have hsw:=hbW0.size
  refine rnT ?_
  refine TW.nextM intK rfl rfl rfl hwk1 (fun hall=> ?_) (fun k v w2 hkv hkn' hs2 hbut2 hext2 hwk2=> ?_)
  ·skip
   refine rnT ?_
   refine CW.cond rfl (fun h1=> ?_) (fun h2=> ?_)
   ·exact absurd h1 (by simp)
   ·refine rnT ?_
    refine TW.cl rfl (sort_c hO (by omega)) ?_
    rintro y w8 ⟨hg8,hO8⟩
    refine rnT ?_
    refine rt1 rfl ⟨hbW1.grown hg8 hbW1.size (fun q hq=>by have:=hfr q hq; omega),?_⟩
    have e:(pre.mergeSort fun x y=>decide (x≤y))=holdS N d l ws t:=lt_ext (inc_sorted hnd) hold_lt fun x=>by
     rw [List.mem_mergeSort,←hkeys]
     refine ⟨fun h=>hsub1 x h,fun h=> ?_⟩
     obtain ⟨p,hp,rfl⟩:=List.mem_map.1 h
     exact hall p hp
    have hl8:(pre.mergeSort fun x y=>decide (x≤y)).length=pre.length:=List.length_mergeSort ..
    rw [←hl8] at hO8
    rw [←e]
    exact OwnS.toInts hO8 (fun x hx=>by
     have:=hold_rng ((hkeys x).1 (hsub1 x (List.mem_mergeSort.1 hx)))
     exact ⟨by omega,by omega⟩) (fun q hq=>hO8.lt hq) (by omega)
  ·skip
   refine rnT ?_
   refine CW.cond rfl (fun h1=> ?_) (fun h2=> ?_)
   ·refine rnT ?_
    refine TW.entryM intK rfl rfl rfl hwk2 ?_
    refine rnT ?_
    refine TW.buildSlice 3 _ rfl rfl rfl eo32 (Args.cons rfl ct Args.nil) rfl rfl rfl rfl rfl ?_
    rintro g6 w6 f6
    have hO2:OwnS w2 3 1 vf pre.length (pre.map (Value.int .i64)):=hO.kept fun q hq=>hbut2.block q (hO.lt hq) (fun e=>by have:=hfr q hq; cases e; omega)
    refine TW.append [.int .i64 k] rfl rfl go32 rfl (hO2.below f6.below) rfl rfl (fun j u hj=>⟨_,rfl,f6.blk.fld hj⟩) (fun u hu=>by simp at hu; subst hu; rfl) (by omega) (by omega) ?_
    rintro v7 w7 hO7 hg7 hn7
    refine rnT ?_
    have s6:=f6.below.size
    have s7:=hg7.size
    have hb2':Below w.heap.size w w2:=hbW1.grown hbut2 hbW1.size (fun q hq=>by cases hq; omega)
    have hitlt:it<W1.heap.size:=by omega
    have hblt:b<W1.heap.size:=by omega
    refine KW.rd (pre++ [k],v7,some (k,v)) ⟨hwk2.kept ?_ ?_,by simpa using hO7,(hb2'.step f6.below).grown hg7 (hb2'.step f6.below).size (fun q hq=>by have:=hfr q hq; omega),by omega,fun q hq=> ?_,?_,?_⟩ (hm:= ?_)
    ·rw [hg7.block it (by omega) (fun e=>by have:=hfr it e.symm; omega),f6.below.block it (by omega)]
    ·rw [hg7.block b (by omega) (fun e=>by have:=hfr b e.symm; omega),f6.below.block b (by omega)]
    ·rcases hn7 with h|h
     ·exact hfr q (by rw [←h]; exact hq)
     ·rw [h] at hq
      cases hq
      omega
    ·refine List.nodup_append.2 ⟨hnd,by simp,fun a ha c hc e=> ?_⟩
     rw [List.mem_singleton] at hc
     subst hc
     subst e
     exact hkn' ha
    ·intro y hy
     rcases List.mem_append.1 hy with h|h
     ·exact hsub1 y h
     ·rw [List.mem_singleton] at h
      subst h
      exact List.mem_map.2 ⟨_,hkv,rfl⟩
    ·have hle:=nodup_len (l:=pre++ [k]) (k:=m.map (·.1)) (List.nodup_append.2 ⟨hnd,by simp,fun a ha c hc e=>by
      rw [List.mem_singleton] at hc
      subst hc
      subst e
      exact hkn' ha⟩) (fun y hy=>by
      rcases List.mem_append.1 hy with h|h
      ·exact hsub1 y h
      ·rw [List.mem_singleton] at h
       subst h
       exact List.mem_map.2 ⟨_,hkv,rfl⟩)
     simp at hle ⊢
     omega
   ·exact absurd h2 (by simp)
theorem dec1_c {g1:Nat} (h1:Blk w g1 30 [dv]) (h2:Blk w g2 31 [lv]) (h3:Blk w g3 30 [wv]) (h4:Blk w g4 37 (clV c)) (hd:SD w dv d) (hl:SE w lv l) (hS:SD w wv ws) (hne: ∀e∈l,e.needs.length≤1000000) (hI:Knd.OK (.at c.to c.acc c.due)) :
  Gives Tryz.prog 39 #[.pointer (some ⟨g1,0,none⟩),.pointer (some ⟨g2,0,none⟩),.pointer (some ⟨g3,0,none⟩),.pointer (some ⟨g4,0,none⟩)] w fun u w'=>Below w.heap.size w w'∧u= .bool (!reachS d l ws c.to c.acc c.due):=by
 refine gv (f:=39) ?_
 refine rnT ?_
 refine TW.ld rfl (h1.cell 0) ?_
 refine TW.ld rfl (h2.cell 0) ?_
 refine TW.ld rfl (h3.cell 0) ?_
 refine rnT ?_
 refine TW.ld rfl (h4.fld (j:=2) rfl) ?_
 refine rnT ?_
 refine TW.ld rfl (h4.fld (j:=4) rfl) ?_
 refine rnT ?_
 refine TW.ld rfl (h4.fld (j:=5) rfl) ?_
 refine TW.cl rfl (reach_c hd hl hS hne hI) ?_
 rintro y w1 ⟨b1,rfl⟩
 refine rnT ?_
 refine rt1 rfl ⟨b1,rfl⟩
theorem dec3_c (h2:Blk w g2 31 [lv]) (h3:Blk w g3 30 [wv]) (h4:Blk w g4 37 (clV c)) (hl:SE w lv l) (hS:SD w wv ws) (hsm:l.length≤1000000) (hne: ∀e∈l,e.needs.length≤1000000) :
  Gives Tryz.prog 41 #[.pointer (some ⟨g2,0,none⟩),.pointer (some ⟨g3,0,none⟩),.pointer (some ⟨g4,0,none⟩)] w fun u w'=>Below w.heap.size w w'∧u= .bool (seenS l ws c.to c.due):=by
 refine gv (f:=41) ?_
 refine rnT ?_
 refine TW.pk [0,1,2,3] rfl ?_
 refine TW.ld rfl (h2.cell 0) ?_
 refine TW.ld rfl (h3.cell 0) ?_
 refine rnT ?_
 refine TW.ld rfl (h4.fld (j:=2) rfl) ?_
 refine rnT ?_
 refine TW.ld rfl (h4.fld (j:=5) rfl) ?_
 refine TW.cl rfl (seen_c hl hS hsm hne) ?_
 rintro y w1 ⟨b1,rfl⟩
 refine rnT ?_
 refine rt1 rfl ⟨b1,rfl⟩
theorem dec4_c:Gives Tryz.prog 42 #[] w fun u w'=>Below w.heap.size w w'∧u= .agg #[.int .i64 2,.int .i64 (-1)]:=by
 refine gv (f:=42) ?_
 refine rnT ?_
 refine TW.alloc rfl rfl zc42 ?_
 rintro g0 w1 f1
 refine rnT ?_
 refine TW.pk [0] rfl ?_
 refine TW.build [0,1] _ [.int .i64 2,.int .i64 (-1)] rfl rfl rfl (Args.cons rfl ct (Args.cons rfl ct Args.nil)) (by kernel_rfl) ?_
 have ha:=f1.at_
 refine TW.storeBlkF rfl rfl rfl f1.blk sz42 rfl rfl rfl ?_
 rintro w2 hB2 hbut2 hsz2
 refine rnT ?_
 refine retCS Tryz.results42 Tryz.underlying42 (by exact sz42) rfl (hB2) (⟨f1.below.grown hbut2 f1.below.size (fun q hq=>by cases hq; omega),rfl⟩)
theorem dec2_c {g0 g1 g5 g6:Nat} {v:NV} (h0:Blk w g0 29 v.cells) (h1:Blk w g1 30 [dv]) (h2:Blk w g2 31 [lv]) (h3:Blk w g3 30 [wv]) (h4:Blk w g4 37 (clV c)) (h5:Blk w g5 32 [kv]) (h6:Blk w g6 33 [psv])
 (ht:Tabs w) (hN:NetAt w v N) (hd:SD w dv d) (hl:SE w lv l) (hS:SD w wv ws) (hk:SL intT F w kv ks) (hps:SPp w psv ps) (hne: ∀e∈l,e.needs.length≤1000000) :
  Gives Tryz.prog 40 #[.pointer (some ⟨g0,0,none⟩),.pointer (some ⟨g1,0,none⟩),.pointer (some ⟨g2,0,none⟩),.pointer (some ⟨g3,0,none⟩),.pointer (some ⟨g4,0,none⟩),.pointer (some ⟨g5,0,none⟩),.pointer (some ⟨g6,0,none⟩)] w fun u w'=>Below w.heap.size w w'∧u= .agg #[.int .i64 1,.int .i64 (liabS (holdS N d l ws c.due) ks ps c.label c.due)]:=by
 refine gv (f:=40) ?_
 refine rnT ?_
 refine TW.alloc rfl rfl zc42 ?_
 rintro g7 w1 f1
 refine rnT ?_
 have b1:=f1.below
 refine TW.ldS rfl (fun _ _ hv=>(h0.next b1).fld hv) ?_
 refine TW.ld rfl ((h1.next b1).cell 0) ?_
 refine TW.ld rfl ((h2.next b1).cell 0) ?_
 refine TW.ld rfl ((h3.next b1).cell 0) ?_
 refine rnT ?_
 refine TW.ld rfl ((h4.next b1).fld (j:=5) rfl) ?_
 refine TW.cl rfl (holders_c (ht.below b1) (net_step hN b1) (sd_step hd b1) (se_step hl b1) (sd_step hS b1) hne) ?_
 rintro y w2 ⟨b2,hH⟩
 have b12:=b1.step b2
 obtain ⟨H,hHe⟩: ∃H,H=holdS N d l ws c.due:=⟨_,rfl⟩
 rw [←hHe] at hH ⊢
 obtain ⟨A,cap,rfl,_⟩:=hH.form
 have hmax:=hH.len.2.2
 have hg7:=f1.at_
 have hR2:=f1.blk.next b2
 refine rnT ?_
 refine CW.draw mixed (by kernel_rfl) ?_
 refine rnD ?_
 by_cases h1':H.length=1
 ·obtain ⟨o,hHo⟩: ∃o,H= [o]:=List.length_eq_one_iff.1 h1'
  have hx0:H[0]?=some o:=by rw [hHo]; rfl
  have hlb:liabS H ks ps c.label c.due=if dec (Exc ks ps c.label o c.due)=true then (-1:Int) else o:=by rw [hHo]; rfl
  rw [hlb]
  obtain ⟨ad,rfl⟩:=hH.addr (by omega)
  refine DW.ld rfl ((h5.next b12).cell 0) ?_
  refine DW.ld rfl ((h6.next b12).cell 0) ?_
  refine rnD ?_
  refine DW.ld rfl ((h4.next b12).fld (j:=0) rfl) ?_
  refine rnD ?_
  refine DW.ld rfl ((show w2.cell? (ad.add ((0:Int).toNat*1))=some (.int .i64 o) from hH.getI hx0)) ?_
  refine rnD ?_
  refine DW.ld rfl ((h4.next b12).fld (j:=5) rfl) ?_
  refine DW.call (.ex (.bool (dec (Exc ks ps c.label o c.due)))) trivial rfl rfl en18 rfl ct (DArgs.cons rfl id (DArgs.cons rfl id (DArgs.cons rfl id (DArgs.cons rfl id (DArgs.cons rfl id DArgs.nil))))) (fun _ w' hb'=>excused_c (hk.below (b12.step hb')) (spp_step hps (b12.step hb'))) ?_
  refine rnD ?_
  refine DW.fi [0,1,2,3,4,5,6,7,8,31] rfl fun w3 b3=> ?_
  refine KW.then_ ?_
  have hR3:=hR2.next b3
  have b13:=b12.step b3
  have s12:=b12.size
  have s1:=b1.size
  have s13:=b13.size
  refine CW.cond rfl (fun hyes=> ?_) (fun hnot=> ?_)
  ·have he:dec (Exc ks ps c.label o c.due)=true:=by
    have h: ¬((H.length:Int)=1)∨dec (Exc ks ps c.label o c.due)=true:=by simpa using hyes
    exact h.resolve_left (by omega)
   refine rnT ?_
   refine TW.build [0,1] _ [.int .i64 1,.int .i64 (-1)] rfl rfl rfl (Args.cons rfl ct (Args.cons rfl ct Args.nil)) (by kernel_rfl) ?_
   refine TW.storeBlkF rfl rfl rfl hR3 sz42 rfl rfl rfl ?_
   rintro w4 hB4 hbut4 hsz4
   refine rnT ?_
   refine retCS Tryz.results40 Tryz.underlying42 (by exact sz42) rfl (hB4) (⟨b13.grown hbut4 b13.size (fun q hq=>by cases hq; omega),by rw [if_pos he]⟩)
  ·have he:dec (Exc ks ps c.label o c.due)=false:=by
    have h:((H.length:Int)=1)∧dec (Exc ks ps c.label o c.due)=false:=by simpa using hnot
    exact h.2
   refine rnT ?_
   refine TW.ld rfl ((show w3.cell? (ad.add ((0:Int).toNat*1))=some (.int .i64 o) from (hH.below b3).getI hx0)) ?_
   refine TW.build [0,1] _ [.int .i64 1,.int .i64 o] rfl rfl rfl (Args.cons rfl ct (Args.cons rfl ct Args.nil)) (by kernel_rfl) ?_
   refine TW.storeBlkF rfl rfl rfl hR3 sz42 rfl rfl rfl ?_
   rintro w4 hB4 hbut4 hsz4
   refine rnT ?_
   refine retCS Tryz.results40 Tryz.underlying42 (by exact sz42) rfl (hB4) (⟨b13.grown hbut4 b13.size (fun q hq=>by cases hq; omega),by rw [if_neg (by rw [he]; simp)]⟩)
 ·have hne1:liabS H ks ps c.label c.due= -1:=by
   rcases liab_cases H ks ps c.label c.due with ⟨o,h,_⟩|⟨_,h⟩
   ·rw [h] at h1'
    exact absurd rfl h1'
   ·exact h
  rw [hne1]
  refine DW.dead (.bool false) rfl (by simp [Cnd]; omega) rfl rfl ?_
  refine DW.dead (.bool false) rfl (by simp [Cnd]; omega) rfl rfl ?_
  refine DW.dead (.bool false) rfl (by simp [Cnd]; omega) rfl rfl ?_
  refine DW.dead (.bool false) rfl (by simp [Cnd]; omega) rfl rfl ?_
  refine DW.dead (.bool false) rfl (by simp [Cnd]; omega) rfl rfl ?_
  refine DW.dead (.bool false) rfl (by simp [Cnd]; omega) rfl rfl ?_
  refine DW.dead (.bool false) rfl (by simp [Cnd]; omega) rfl rfl ?_
  refine DW.dead (.bool false) rfl (by simp [Cnd]; omega) rfl rfl ?_
  refine DW.dead (.bool false) rfl (by simp [Cnd]; omega) rfl rfl ?_
  refine DW.dead (.bool false) rfl (by simp [Cnd]; omega) rfl rfl ?_
  refine DW.dead (.bool false) rfl (by simp [Cnd]; omega) rfl rfl ?_
  refine rnD ?_
  refine DW.fi [0,1,2,3,4,5,6,7,8,31] rfl fun w3 b3=> ?_
  refine KW.then_ ?_
  have hR3:=hR2.next b3
  have b13:=b12.step b3
  have s12:=b12.size
  have s1:=b1.size
  have s13:=b13.size
  refine CW.cond rfl (fun hyes=> ?_) (fun hnot=> ?_)
  ·refine rnT ?_
   refine TW.build [0,1] _ [.int .i64 1,.int .i64 (-1)] rfl rfl rfl (Args.cons rfl ct (Args.cons rfl ct Args.nil)) (by kernel_rfl) ?_
   refine TW.storeBlkF rfl rfl rfl hR3 sz42 rfl rfl rfl ?_
   rintro w4 hB4 hbut4 hsz4
   refine rnT ?_
   refine retCS Tryz.results40 Tryz.underlying42 (by exact sz42) rfl (hB4) (⟨b13.grown hbut4 b13.size (fun q hq=>by cases hq; omega),rfl⟩)
  ·exfalso
   simp at hnot
   omega
theorem dec_bool {nw:Nat} (h:n=0↔SoundOK keys11 N):(decide ((n:Int)≠0)|| !dec (FitW d l nw)||decide ((d.length:Int)≠N.offs.length)|| !dec (ClOK N c))= !dec (DecOK N d l nw c):=by
 by_cases hq:DecOK N d l nw c
 ·rw [dec_pos hq,dec_pos hq.fit,dec_pos hq.claim]
  have h1:=h.2 hq.sound
  have h2:=hq.same
  simp
  omega
 ·rw [dec_neg hq]
  by_cases h1:SoundOK keys11 N
  ·by_cases h2:FitW d l nw
   ·by_cases h3:d.length=N.offs.length
    ·have h4: ¬ClOK N c:=fun h=>hq ⟨h1,h2,h3,h⟩
     rw [dec_neg h4]
     simp
    ·have:((d.length:Int)≠N.offs.length):=by omega
     rw [decide_eq_true this]
     simp
   ·rw [dec_neg h2]
    simp
  ·have:((n:Int)≠0):=fun e=>h1 (h.1 (by omega))
   rw [decide_eq_true this]
   simp
theorem decide_c {v:NV} (ht:Tabs w) (hN:NetAt w v N) (hd:SD w dv d) (hl:SE w lv l) (hS:SD w wv ws) (hk:SL intT F w kv ks) (hps:SPp w psv ps) (hne: ∀e∈l,e.needs.length≤1000000) (hcI:ClI c) :
  Gives Tryz.prog 13 #[.agg v.cells.toArray,dv,lv,wv,kv,psv,.agg (clV c).toArray] w fun u w'=>Below w.heap.size w w'∧u= .tuple #[.agg #[.int .i64 (decS N d l ws ks ps c).1.1,.int .i64 (decS N d l ws ks ps c).1.2],.int .i64 (decS N d l ws ks ps c).2]:=by
 have hform:=NetIn.form hN
 obtain ⟨vc,vn,vo,vf,vl,vk⟩:=v
 obtain ⟨⟨A1,c1,e1⟩,⟨A2,c2,e2⟩,⟨A3,c3,e3⟩,⟨A4,c4,e4⟩,⟨A5,c5,e5⟩,⟨A6,c6,e6⟩⟩:=id hform
 dsimp only at e1 e2 e3 e4 e5 e6
 subst e1 e2 e3 e4 e5 e6
 obtain ⟨DA,dc,rfl,_⟩:=hd.form
 obtain ⟨LA,lc,rfl,_⟩:=hl.form
 obtain ⟨WA,wc,rfl,_⟩:=hS.form
 obtain ⟨KA,kc,rfl,_⟩:=hk.form
 obtain ⟨PA,pc,rfl,_⟩:=hps.form
 have m1:=hd.len.2.2
 have m2:=hl.len.2.2
 have m3:=hS.len.2.2
 have m4:=hN.f.len.2.2
 have m5:=hps.len.2.2
 refine gv (f:=13) ?_
 refine rnT ?_
 refine TW.box rfl rfl rfl rfl ?_
 rintro g7 w1 f1
 refine TW.box rfl rfl rfl rfl ?_
 rintro g8 w2 f2
 refine TW.box rfl rfl rfl rfl ?_
 rintro g9 w3 f3
 refine TW.box rfl rfl rfl rfl ?_
 rintro g10 w4 f4
 refine TW.box rfl rfl rfl rfl ?_
 rintro g11 w5 f5
 refine TW.box rfl rfl rfl rfl ?_
 rintro g12 w6 f6
 refine TW.box rfl rfl rfl rfl ?_
 rintro g13 w7 f7
 refine TW.alloc rfl rfl zc42 ?_
 rintro g14 w8 f8
 refine rnT ?_
 have b78:=f8.below
 have b68:=f7.below.step b78
 have b58:=f6.below.step b68
 have b48:=f5.below.step b58
 have b38:=f4.below.step b48
 have b28:=f3.below.step b38
 have b18:=f2.below.step b28
 have b8:=f1.below.step b18
 have hB7:=f1.blk.next b18
 have hB8:=f2.blk.next b28
 have hB9:=f3.blk.next b38
 have hB10:=f4.blk.next b48
 have hB11:=f5.blk.next b58
 have hB12:=f6.blk.next b68
 have hB13:=f7.blk.next b78
 have hB14:=f8.blk
 have q14:=f8.at_
 have s7:w.heap.size≤w7.heap.size:=by
  have:=f1.below.size
  have:=f2.below.size
  have:=f3.below.size
  have:=f4.below.size
  have:=f5.below.size
  have:=f6.below.size
  have:=f7.below.size
  omega
 have q8:=f8.size
 have hN8:=net_step hN b8
 refine TW.ldS rfl (fun _ _ hv=>hB7.fld hv) ?_
 refine TW.cl rfl (check_c (v:=⟨.slice A1 N.cals.length c1,.slice A2 N.names.length c2,.slice A3 N.ops.length c3,.slice A4 N.offs.length c4,.slice A5 N.lines.length c5,.slice A6 N.classes.length c6⟩) (ht.below b8) hN8) ?_
 rintro y w9 ⟨d9,YA,n,yc,rfl,hsound⟩
 refine rnT ?_
 refine TW.ld rfl ((hB8.next d9).cell 0) ?_
 refine TW.ld rfl ((hB9.next d9).cell 0) ?_
 refine TW.ld rfl ((hB10.next d9).cell 0) ?_
 refine TW.callF (cap:= []) rfl rfl en37 rfl ct (Args.cons rfl id (Args.cons rfl id (Args.cons rfl id Args.nil))) (fun _=>vfitting_c (sd_step hd (b8.step d9)) (se_step hl (b8.step d9)) m3) ?_
 rintro w10 d10
 refine rnT ?_
 have d8:=d9.step d10
 refine TW.ld rfl ((hB8.next d8).cell 0) ?_
 refine rnT ?_
 refine TW.ld rfl ((hB7.next d8).fld (j:=3) rfl) ?_
 refine rnT ?_
 refine TW.ldS rfl (fun _ _ hv=>(hB7.next d8).fld hv) ?_
 refine TW.ldS rfl (fun _ _ hv=>(hB13.next d8).fld hv) ?_
 refine TW.callF (cap:= []) rfl rfl en38 rfl ct (Args.cons rfl id (Args.cons rfl id Args.nil)) (fun _=>vwell_c (v:=⟨.slice A1 N.cals.length c1,.slice A2 N.names.length c2,.slice A3 N.ops.length c3,.slice A4 N.offs.length c4,.slice A5 N.lines.length c5,.slice A6 N.classes.length c6⟩) (c:=c) (net_step hN8 d8)) ?_
 rintro w11 d11
 refine rnT ?_
 refine CW.pk [0,1,2,3,4,5,6,7,8,9,10,11,12,13,14,15,19] rfl ?_
 have e8:=d8.step d11
 have b11:=b8.step e8
 refine CW.cond rfl (fun hbad=> ?_) (fun hgood=> ?_)
 ·have hD:(!dec (DecOK N d l ws.length c))=true:=by rw [←dec_bool hsound]; exact hbad
  refine rnT ?_
  refine TW.build [] _ [.int .i64 0,.int .i64 0] rfl rfl rfl Args.nil (by kernel_rfl) ?_
  refine TW.storeBlkF rfl rfl rfl (hB14.next e8) sz42 rfl rfl rfl ?_
  rintro wr hBr hbutr hszr
  refine rnT ?_
  refine ret2CS Tryz.results13 Tryz.underlying42 (by exact sz42) rfl rfl hBr ⟨b11.grown hbutr b11.size (fun q hq=>by cases hq; omega),?_⟩
  rw [show decS N d l ws ks ps c=((0,0),1) by unfold decS; rw [if_pos (by simpa using hD)]]
 have hD:dec (DecOK N d l ws.length c)=true:=by
  have:(!dec (DecOK N d l ws.length c))=false:=by rw [←dec_bool hsound]; exact hgood
  simpa using this
 have hDc:DecOK N d l ws.length c:=dec_iff.1 hD
 refine rnT ?_
 refine TW.ld rfl ((hB12.next e8).cell 0) ?_
 refine rnT ?_
 refine CW.condP rfl (fun hmany=> ?_) (fun hfew=> ?_)
 ·refine rnT ?_
  refine TW.build [] _ [.int .i64 0,.int .i64 0] rfl rfl rfl Args.nil (by kernel_rfl) ?_
  refine TW.storeBlkF rfl rfl rfl (hB14.next e8) sz42 rfl rfl rfl ?_
  rintro wr hBr hbutr hszr
  refine rnT ?_
  refine ret2CS Tryz.results13 Tryz.underlying42 (by exact sz42) rfl rfl hBr ⟨b11.grown hbutr b11.size (fun q hq=>by cases hq; omega),?_⟩
  rw [show decS N d l ws ks ps c=((0,0),2) by unfold decS; rw [if_neg (by rw [hD]; simp),if_pos (by omega)]]
 refine rnT ?_
 refine TW.ld rfl ((hB10.next e8).cell 0) ?_
 refine rnT ?_
 refine CW.pk [0,1,2,3,4,5,6,7,8,9,10,11,12,13,14,15,51] rfl ?_
 refine CW.condP rfl (fun hno=> ?_) (fun hsome=> ?_)
 ·refine rnT ?_
  refine TW.build [] _ [.int .i64 0,.int .i64 0] rfl rfl rfl Args.nil (by kernel_rfl) ?_
  refine TW.storeBlkF rfl rfl rfl (hB14.next e8) sz42 rfl rfl rfl ?_
  rintro wr hBr hbutr hszr
  refine rnT ?_
  refine ret2CS Tryz.results13 Tryz.underlying42 (by exact sz42) rfl rfl hBr ⟨b11.grown hbutr b11.size (fun q hq=>by cases hq; omega),?_⟩
  rw [show decS N d l ws ks ps c=((0,0),280) by unfold decS; rw [if_neg (by rw [hD]; simp),if_neg (by omega),if_pos (List.eq_nil_of_length_eq_zero (by omega))]]
 have hds:decS N d l ws ks ps c=(rulS N d l ws ks ps c,0):=by
  unfold decS
  rw [if_neg (by rw [hD]; simp),if_neg (by omega),if_neg (fun e=>hsome (by rw [e]; rfl))]
 rw [hds]
 have hc:=hDc.claim
 have hlm:=hDc.fit.few
 have hKI:Knd.OK (.at c.to c.acc c.due):=⟨hcI.t,hcI.a,hcI.d⟩
 refine rnT ?_
 refine TW.makeFunc rfl rfl (Args.cons rfl ct (Args.cons rfl ct (Args.cons rfl ct (Args.cons rfl ct Args.nil)))) ?_
 refine TW.makeFunc rfl rfl (Args.cons rfl ct (Args.cons rfl ct (Args.cons rfl ct (Args.cons rfl ct (Args.cons rfl ct (Args.cons rfl ct (Args.cons rfl ct Args.nil))))))) ?_
 refine TW.build [0,1] _ [.func (.func 39) #[] #[.pointer (some ⟨g8,0,none⟩),.pointer (some ⟨g9,0,none⟩),.pointer (some ⟨g10,0,none⟩),.pointer (some ⟨g13,0,none⟩)],.func (.func 40) #[] #[.pointer (some ⟨g7,0,none⟩),.pointer (some ⟨g8,0,none⟩),.pointer (some ⟨g9,0,none⟩),.pointer (some ⟨g10,0,none⟩),.pointer (some ⟨g13,0,none⟩),.pointer (some ⟨g11,0,none⟩),.pointer (some ⟨g12,0,none⟩)]] rfl rfl rfl (Args.cons rfl ct (Args.cons rfl ct Args.nil)) (by kernel_rfl) ?_
 refine TW.makeFunc rfl rfl (Args.cons rfl ct (Args.cons rfl ct (Args.cons rfl ct Args.nil))) ?_
 refine TW.build [0,1] _ [.func (.func 41) #[] #[.pointer (some ⟨g9,0,none⟩),.pointer (some ⟨g10,0,none⟩),.pointer (some ⟨g13,0,none⟩)],.func (.func 42) #[] #[]] rfl rfl rfl (Args.cons rfl ct (Args.cons rfl ct Args.nil)) (by kernel_rfl) ?_
 refine TW.buildSlice 91 _ rfl rfl rfl eo92 (Args.cons rfl ct (Args.cons rfl ct Args.nil)) rfl rfl rfl rfl rfl ?_
 rintro g61 w12 f12
 refine rnT ?_
 have e12:=e8.step f12.below
 have b12:=b11.step f12.below
 have hRow:SL (rawT 2) (fun k=>k<w12.heap.size) w12 (.slice (some ⟨g61,0,none⟩) 2 2) [[.func (.func 39) #[] #[.pointer (some ⟨g8,0,none⟩),.pointer (some ⟨g9,0,none⟩),.pointer (some ⟨g10,0,none⟩),.pointer (some ⟨g13,0,none⟩)],.func (.func 40) #[] #[.pointer (some ⟨g7,0,none⟩),.pointer (some ⟨g8,0,none⟩),.pointer (some ⟨g9,0,none⟩),.pointer (some ⟨g10,0,none⟩),.pointer (some ⟨g13,0,none⟩),.pointer (some ⟨g11,0,none⟩),.pointer (some ⟨g12,0,none⟩)]],[.func (.func 41) #[] #[.pointer (some ⟨g9,0,none⟩),.pointer (some ⟨g10,0,none⟩),.pointer (some ⟨g13,0,none⟩)],.func (.func 42) #[] #[]]]:=raw_lit (by decide) _ f12.blk rfl (by simp) (by simp)
 refine CW.lp [14,62,63] (fun i:Nat=> [(64,none,.int .i64 (i:Int))])
  (fun i W=>i≤2∧Below w12.heap.size w12 W∧(1≤i→reachS d l ws c.to c.acc c.due=true)∧(2≤i→seenS l ws c.to c.due=false)) (fun i=>2-i) 0 ⟨by omega,Below.refl _ _,fun h=>by omega,fun h=>by omega⟩ ?_
 rintro i W ⟨hi,hB,hr1,hr2⟩
 refine rnT ?_
 refine CW.pk [14,62,63,64,65] rfl ?_
 have eW:=e12.step hB
 have bW:=b12.step hB
 refine CW.condP rfl (fun hlt=> ?_) (fun hge=> ?_)
 ·have hRW:=hRow.below hB
  obtain rfl|rfl:i=0∨i=1:=by omega
  ·have hcx:=(raw_get hRW (i:=0) rfl).1
   refine rnT ?_
   refine TW.ldS rfl (fun j u hj=>hcx j u hj) ?_
   refine TW.newVar rfl zc91 rfl sz91 rfl rfl ?_
   rintro g18 w15 f15
   refine rnT ?_
   have eX:=eW.step f15.below
   have bX:=bW.step f15.below
   refine TW.ld rfl (f15.blk.fld (j:=0) rfl) ?_
   refine TW.call0 rfl rfl en39 rfl Args.nil (dec1_c (hB8.next eX) (hB9.next eX) (hB10.next eX) (hB13.next eX) (sd_step hd bX) (se_step hl bX) (sd_step hS bX) hne hKI) ?_
   rintro y w16 ⟨b16,rfl⟩
   have eY:=eX.step b16
   have bY:=bX.step b16
   refine rnT ?_
   refine CW.cond rfl (fun hyes=> ?_) (fun hnot=> ?_)
   ·have hre:reachS d l ws c.to c.acc c.due=false:=by simpa using hyes
    refine rnT ?_
    refine TW.ld rfl ((f15.blk.next b16).fld (j:=1) rfl) ?_
    refine TW.call0 rfl rfl en40 rfl Args.nil (dec2_c (hB7.next eY) (hB8.next eY) (hB9.next eY) (hB10.next eY) (hB13.next eY) (hB11.next eY) (hB12.next eY) (ht.below bY) (net_step hN bY) (sd_step hd bY) (se_step hl bY) (sd_step hS bY) (hk.below bY) (spp_step hps bY) hne) ?_
    rintro y w17 ⟨b17,rfl⟩
    have bZ:=bY.step b17
    refine TW.storeBlkF rfl rfl rfl ((hB14.next eY).next b17) sz42 rfl rfl rfl ?_
    rintro wr hBr hbutr hszr
    refine rnT ?_
    refine ret2CS Tryz.results13 Tryz.underlying42 (by exact sz42) rfl rfl hBr ⟨bZ.grown hbutr bZ.size (fun q hq=>by cases hq; omega),?_⟩
    unfold rulS; rw [if_pos hre]
   ·have hre:reachS d l ws c.to c.acc c.due=true:=by simpa using hnot
    refine rnT ?_
    refine KW.rd 1 ⟨by omega,(hB.step f15.below).step b16,fun _=>hre,fun h=>by omega⟩
  ·have hcx:=(raw_get hRW (i:=1) rfl).1
   refine rnT ?_
   refine TW.ldS rfl (fun j u hj=>hcx j u hj) ?_
   refine TW.newVar rfl zc91 rfl sz91 rfl rfl ?_
   rintro g18 w15 f15
   refine rnT ?_
   have eX:=eW.step f15.below
   have bX:=bW.step f15.below
   have hre:=hr1 (by omega)
   refine TW.ld rfl (f15.blk.fld (j:=0) rfl) ?_
   refine TW.call0 rfl rfl en41 rfl Args.nil (dec3_c (hB9.next eX) (hB10.next eX) (hB13.next eX) (se_step hl bX) (sd_step hS bX) (by omega) hne) ?_
   rintro y w16 ⟨b16,rfl⟩
   have eY:=eX.step b16
   have bY:=bX.step b16
   refine rnT ?_
   refine CW.cond rfl (fun hyes=> ?_) (fun hnot=> ?_)
   ·refine rnT ?_
    refine TW.ld rfl ((f15.blk.next b16).fld (j:=1) rfl) ?_
    refine TW.call0 rfl rfl en42 rfl Args.nil (dec4_c) ?_
    rintro y w17 ⟨b17,rfl⟩
    have bZ:=bY.step b17
    refine TW.storeBlkF rfl rfl rfl ((hB14.next eY).next b17) sz42 rfl rfl rfl ?_
    rintro wr hBr hbutr hszr
    refine rnT ?_
    refine ret2CS Tryz.results13 Tryz.underlying42 (by exact sz42) rfl rfl hBr ⟨bZ.grown hbutr bZ.size (fun q hq=>by cases hq; omega),?_⟩
    unfold rulS; rw [if_neg (by rw [hre]; simp),if_pos hyes]
   ·refine rnT ?_
    refine KW.rd 2 ⟨by omega,(hB.step f15.below).step b16,fun _=>hre,fun _=>hnot⟩
 ·have hre:=hr1 (by omega)
  have hse:=hr2 (by omega)
  refine rnT ?_
  refine TW.build [0,1] _ [.int .i64 0,.int .i64 (-1)] rfl rfl rfl (Args.cons rfl ct (Args.cons rfl ct Args.nil)) (by kernel_rfl) ?_
  refine TW.storeBlkF rfl rfl rfl (hB14.next eW) sz42 rfl rfl rfl ?_
  rintro wr hBr hbutr hszr
  refine rnT ?_
  refine ret2CS Tryz.results13 Tryz.underlying42 (by exact sz42) rfl rfl hBr ⟨bW.grown hbutr bW.size (fun q hq=>by cases hq; omega),?_⟩
  unfold rulS; rw [if_neg (by rw [hre]; simp),if_neg (by rw [hse]; simp)]
theorem above2_c (h:SL intT F w v [a,b]) (ha:I64 a) (hb:I64 b):Gives Tryz.prog 245 #[v] w fun u w'=>Below w.heap.size w w'∧OwnS w' 3 1 u 1 [.int .i64 (sumS [1,a,b])]∧ ∀g,u.ownBlock=some g→w.heap.size≤g:=by
 obtain ⟨A,cap,hv,_⟩:=h.form
 have hv:v= .slice A 2 cap:=hv
 subst hv
 obtain ⟨ad,rfl⟩:=h.addr (by simp)
 refine gv (f:=245) ?_
 refine rnT ?_
 refine CW.lp [0] (fun x:Nat×Value=> [(3,none,x.2),(4,none,.int .i64 (x.1:Int))])
  (fun x W=>(x.1=0∧W=w∧x.2= .slice none 0 0)∨(x.1=2∧Below w.heap.size w W∧OwnS W 3 1 x.2 1 [.int .i64 (sumS [1,a,b])]∧ ∀g,x.2.ownBlock=some g→w.heap.size≤g)) (fun x=>2-x.1) (0,.slice none 0 0) (.inl ⟨rfl,rfl,rfl⟩) ?_
 rintro ⟨i,vf⟩ W hJ
 dsimp only at hJ
 rcases hJ with ⟨rfl,rfl,rfl⟩|⟨rfl,hB,hO,hfr⟩
 ·skip
  refine rnT ?_
  refine CW.condP rfl (fun hlt=> ?_) (fun hge=> ?_)
  ·skip
   refine rnT ?_
   refine CW.drawR mixed fun W5 hW5=> ?_
   refine RW.draw .weak 13 (by kernel_rfl) (by kernel_rfl) rfl rfl hW5 ?_
   refine rnD ?_
   refine DW.ld rfl (h.getI (i:=0) rfl) ?_
   refine rnD ?_
   refine DW.ld rfl ((show W.cell? (ad.add ((((0:Nat):Int)+1).toNat*1))=some (.int .i64 b) from h.getI (i:=1) rfl)) ?_
   refine DW.buildSlice 3 _ rfl rfl rfl eo32 (DArgs.cons rfl ct (DArgs.cons rfl ct (DArgs.cons rfl ct DArgs.nil))) rfl rfl rfl rfl rfl ?_
   refine DW.callP (.ex (.int .i64 (sumS [1,a,b]))) (trivial) rfl rfl en213 rfl ct (PArgs.cons rfl ct PArgs.nil) (fun _ w' hb' vs hs=> ?_) ?_
   ·obtain ⟨u,rfl,⟨g,rfl,hB⟩⟩:=Sats.one hs
    exact (sum_c (lit_i64 [1,a,b] hB rfl (three_i64 (low_i64 (by decide)) ha hb) (by simp))).mono fun x w'' ⟨h1,h2⟩=>⟨h1 ▸ Below.refl _ _,h2⟩
   refine DW.buildSlice 3 _ rfl rfl rfl eo32 (DArgs.cons rfl ct DArgs.nil) rfl rfl rfl rfl rfl ?_
   refine DW.nil (DW.finX [0,3,4,12] [(0,_,_),(3,_,_),(4,_,_),(12,_,_)] rfl [24] rfl fun vs w5 b5 hs5=>KW.rk' ?_)
   obtain ⟨v24,rfl,h24⟩:=Sats.one hs5
   obtain ⟨g24,rfl,hB24⟩:=h24
   refine RW.one (by kernel_rfl) (by kernel_rfl) rfl ?_
   refine TW.append [.int .i64 (sumS [1,a,b])] rfl rfl go32 rfl (OwnS.nil _ _ _) rfl rfl (fun j u hj=>⟨_,rfl,hB24.fld hj⟩) (fun u hu=>by simp at hu; subst hu; rfl) (by decide) (by decide) ?_
   rintro v6 w6 hO6 hg6 hn6
   refine TW.nil (KW.pick [0,3,4,25] [(0,_,_),(3,_,_),(4,_,_),(25,_,_)] rfl (KW.rk ?_))
   refine RW.one (by kernel_rfl) (by kernel_rfl) rfl ?_
   refine TW.v V.assign rfl ⟨ct,trivial⟩ (fun _=>trivial) ?_
   refine TW.nil (KW.pick [0,3,4] [(0,_,_),(3,_,_),(4,_,_)] rfl (KW.rk ?_))
   refine RW.end rfl (KW.pick [0,3,4] [(0,_,_),(3,_,_),(4,_,_)] rfl (KW.blockN (KW.then_ ?_)))
   refine rnT ?_
   have b6:Below W.heap.size W w6:=b5.grown hg6 b5.size (fun q hq=>by simp [Value.ownBlock] at hq)
   refine KW.rd (2,v6) (.inr ⟨rfl,b6,hO6,fun g hg=> ?_⟩)
   rcases hn6 with h|h
   ·rw [h] at hg; simp [Value.ownBlock] at hg
   ·rw [h] at hg; cases hg; exact b5.size
  ·exact absurd hge (by decide)
 ·skip
  refine rnT ?_
  refine CW.condP rfl (fun hlt=> ?_) (fun hge=> ?_)
  ·exact absurd hlt (by simp)
  ·refine rnT ?_
   refine CW.condP rfl (fun h1=> ?_) (fun h2=> ?_)
   ·exact absurd h1 (by decide)
   ·refine rnT ?_
    refine rt1 rfl ⟨hB,hO,hfr⟩
theorem sibling2_c (h:SL intT F w v [a,b]):Gives Tryz.prog 222 #[v,.int .i64 0] w fun u w'=>Below w.heap.size w w'∧u= .int .i64 b:=by
 obtain ⟨A,cap,hv,_⟩:=h.form
 have hv:v= .slice A 2 cap:=hv
 subst hv
 obtain ⟨ad,rfl⟩:=h.addr (by simp)
 refine gv (f:=222) ?_
 refine rnT ?_
 refine CW.pk [0,1,4,5] rfl ?_
 refine CW.condP rfl (fun h1=> ?_) (fun h2=> ?_)
 ·exact absurd h1 (by decide)
 ·refine rnT ?_
  refine CW.condP rfl (fun h3=> ?_) (fun h4=> ?_)
  ·refine rnT ?_
   refine TW.ld rfl ((show w.cell? (ad.add (((0:Int)+1).toNat*1))=some (.int .i64 b) from h.getI (i:=1) rfl)) ?_
   refine rnT ?_
   refine rt1 rfl ⟨Below.refl _ _,rfl⟩
  ·exact absurd h4 (by decide)
abbrev RwE:=Value×List Int
def row0 (x y:ByteArray):List Int:= [leafS x,leafS y]
def row1 (x y:ByteArray):List Int:= [sumS [1,leafS x,leafS y]]
def rwPos (x y:ByteArray) (pre:List RwE) (e:RwE) (M:Nat→Prop) (W:World):Prop:=pre.map (·.2)= [row0 x y,row1 x y].take pre.length∧ [row0 x y,row1 x y][pre.length]?=some e.2∧SL intT (fun k=>k<W.heap.size∧ ¬M k) W e.1 e.2
theorem rows_iter {gl cl:Nat} {x y:ByteArray} (hx:x.size≤1000000) (hy':y.size≤1000000) (hB:Blk w g 23 [.slice (some ⟨gl,0,none⟩) 2 cl]) (hL:Blk w gl 9 [.string x,.string y]) :
  IterW Tryz.prog 244 [.pointer (some ⟨g,0,none⟩)] (fun e:RwE=> [e.1]) (rwPos x y) (fun xs=>xs.map (·.2)= [row0 x y,row1 x y]) (fun k=>k=g∨k=gl) w:=by
 intro yl J Jx W M hown hsz hyl hM hMlt hJ hJx hy h0
 have hBW:Blk W g 23 [.slice (some ⟨gl,0,none⟩) 2 cl]:=(hown g (.inl rfl) hB.lt).trans hB
 have hLW:Blk W gl 9 [.string x,.string y]:=(hown gl (.inr rfl) hL.lt).trans hL
 refine gv (f:=244) ?_
 refine rnT ?_
 refine TW.ld rfl (hBW.cell 0) ?_
 refine rnT ?_
 refine CW.condP rfl (fun hz=> ?_) (fun hz=> ?_)
 ·exact absurd hz (by decide)
 refine rnT ?_
 refine TW.ld rfl (hBW.cell 0) ?_
 refine rnT ?_
 refine TW.makeSlice rfl rfl (zero1_of go32 ze3 rfl) rfl rfl (by omega) (by omega) ?_
 rintro g3 w1 f1
 refine rnT ?_
 have q3:=f1.at_
 have s3:=f1.size
 refine TW.ld rfl ((hBW.next f1.below).cell 0) ?_
 refine rnT ?_
 have hO1:OwnS w1 3 1 (.slice (some ⟨g3,0,none⟩) 2 2) 2 (List.replicate 2 (Value.int .i64 0)):=OwnS.of_blk f1.blk (by simp) (by omega)
 have hlg:gl<W.heap.size:=hLW.lt
 refine CW.lp [0,3,12,13] (fun i:Nat=> [(14,none,.int .i64 (i:Int))])
  (fun i W2=>i≤2∧But g3 w1 W2∧w1.heap.size≤W2.heap.size∧OwnS W2 3 1 (.slice (some ⟨g3,0,none⟩) 2 2) 2 (((row0 x y).map (Value.int .i64)).take i++List.replicate (2-i) (Value.int .i64 0))) (fun i=>2-i) 0 ⟨by omega,But.of_below (Below.refl _ _),Nat.le_refl _,by simpa using hO1⟩ ?_
 rintro i W2 ⟨hi,hbut,hsz2,hO⟩
 have hb2:Below W.heap.size W W2:=But.below f1.below hbut (by omega)
 refine rnT ?_
 refine CW.condP rfl (fun hlt=> ?_) (fun hge=> ?_)
 ·have hL2:=hLW.next hb2
  obtain ⟨s,hs,hsm⟩:=getx (l:= [x,y]) (k:=i) (by simp; omega)
  have hsz:s.size≤1000000:=by
   simp only [List.mem_cons,List.not_mem_nil,or_false] at hsm
   rcases hsm with rfl|rfl<;>assumption
  have hget:W2.cell? (Addr.add ⟨gl,0,none⟩ ((i:Int).toNat*1))=some (.string s):=by
   rw [show (i:Int).toNat*1=i by omega]
   refine hL2.fld (cs:= [.string x,.string y]) ?_
   have e:([x,y].map Value.string)[i]?=some (.string s):=by rw [List.getElem?_map,hs]; rfl
   exact e
  have hrow:((row0 x y).map (Value.int .i64))[i]?=some (.int .i64 (leafS s)):=by
   have e:row0 x y= [x,y].map leafS:=rfl
   rw [e,List.map_map,List.getElem?_map,hs]
   rfl
  refine rnT ?_
  refine TW.ld rfl hget ?_
  refine rnT ?_
  refine TW.cl rfl (label_c hsz) ?_
  rintro u w3 ⟨b3,rfl⟩
  refine TW.buildSlice 3 _ rfl rfl rfl eo32 (Args.cons rfl ct (Args.cons rfl ct Args.nil)) rfl rfl rfl rfl rfl ?_
  rintro g5 w5 f5
  have hl5:SI w5 (.slice (some ⟨g5,0,none⟩) 2 2) [0,labS s]:=lit_i64 _ f5.blk rfl (fun z hz=>by
   simp only [List.mem_cons,List.not_mem_nil,or_false] at hz
   rcases hz with rfl|rfl
   ·exact low_i64 (by decide)
   ·exact sum_i64 _) (by simp)
  refine TW.cl rfl (sum_c hl5) ?_
  rintro u w6 ⟨rfl,rfl⟩
  have hO6:=(hO.below b3).below f5.below
  have s53:=b3.size
  have s55:=f5.below.size
  refine rnT ?_
  refine TW.storeRow1 rfl sz3 rfl rfl hO6 (by simp [row0]; omega) rfl ?_
  rintro w7 hO7 hb7 hs7
  refine rnT ?_
  refine KW.rd (i+1) ⟨by omega,((hbut.step b3).step f5.below).trans hb7,by omega,?_⟩
  rw [←fill_next hrow (by omega)]
  have e2:leafS s=sumS [0,labS s]:=rfl
  simpa only [Nat.mul_one,Int.toNat_natCast,e2] using hO7
 have hie:i=2:=by omega
 subst hie
 have hj0:J [] M W2:=hJ _ _ _ _ h0 (.of_below hb2)
 have hs2:=hb2.size
 have hr0:SL intT (fun k=>W.heap.size≤k∧k<W2.heap.size∧ ¬M k) W2 (.slice (some ⟨g3,0,none⟩) 2 2) (row0 x y):=by
  have e:((row0 x y).map (Value.int .i64)).take 2++List.replicate (2-2) (Value.int .i64 0)=(row0 x y).map (Value.int .i64):=rfl
  rw [e] at hO
  refine OwnS.toInts hO (fun z hz=> ?_) (fun q hq=> ?_) (by simp [row0])
  ·simp only [row0,List.mem_cons,List.not_mem_nil,or_false] at hz
   rcases hz with rfl|rfl<;>exact sum_i64 _
  ·have:=hO.lt hq
   simp [Value.ownBlock] at hq
   subst hq
   exact ⟨by omega,this,fun h=>by have:=hMlt _ h; omega⟩
 refine rnT ?_
 refine CW.lp [0] (fun e:List RwE×(Nat→Prop)×Value=> [(3,none,e.2.2)])
  (fun e W'=>J e.1 e.2.1 W'∧e.1.length≤1∧e.1.map (·.2)= [row0 x y,row1 x y].take e.1.length∧W2.heap.size≤W'.heap.size∧(∀k,e.2.1 k→k<W'.heap.size)∧ ∃r,[row0 x y,row1 x y][e.1.length]?=some r∧SL intT (fun k=>W.heap.size≤k∧k<W'.heap.size∧ ¬e.2.1 k) W' e.2.2 r) (fun e=>2-e.1.length) ([],M,.slice (some ⟨g3,0,none⟩) 2 2)
  ⟨hj0,by simp,rfl,Nat.le_refl _,fun k hk=>by have:=hMlt k hk; omega,_,rfl,hr0⟩ ?_
 rintro ⟨pre,M1,rv⟩ W1 ⟨hj,hpn,heq,hsz1,hM1,r,hr,hrow⟩
 dsimp only at hj hpn heq hsz1 hM1 hr hrow
 obtain ⟨A,cap,rfl,_⟩:=hrow.form
 have hrm:=hrow.len.2.2
 refine rnT ?_
 refine TW.yield rfl rfl rfl (Args.cons rfl ct Args.nil) (hy pre (.slice A r.length cap,r) M1 W1 hj ⟨heq,hr,hrow.wider fun k hk=>hk.2⟩ hM1 (by omega)) ?_
 rintro yb W3 hR
 refine rnT ?_
 refine CW.pk [0,3,34] rfl ?_
 have hall:(pre++ [((.slice A r.length cap,r):RwE)]).map (·.2)= [row0 x y,row1 x y].take (pre.length+1):=by
  rw [List.map_append,heq,List.take_add_one,hr]
  rfl
 refine CW.cond rfl (fun hgo=> ?_) (fun hend=> ?_)
 ·have hyb:yb=true∧1<r.length:=by
   have h:yb=true∧(1:Int)<r.length:=by simpa using hgo
   exact ⟨h.1,by omega⟩
  have hp0:pre.length=0:=by
   rcases Nat.lt_or_ge 0 pre.length with h|h
   ·have h1:pre.length=1:=by omega
    rw [h1] at hr
    have:r=row1 x y:=by simpa using hr.symm
    rw [this] at hyb
    simp [row1] at hyb
   ·omega
  rw [hp0] at hr hall
  have hre:r=row0 x y:=by simpa using hr.symm
  subst hre
  obtain ⟨M',hj3,hm3⟩:=hR.yes hyb.1
  have hrs:=hR.size
  have hrow3:SL intT (fun k=>W.heap.size≤k∧k<W1.heap.size∧ ¬M1 k) W3 (.slice A (row0 x y).length cap) (row0 x y):=hrow.mono (Kept.of_blocks fun k hk hlt=>hR.kept k hk.2.1 hk.2.2 (by omega))
  refine rnT ?_
  refine TW.cl rfl (above2_c (a:=leafS x) (b:=leafS y) hrow3 (sum_i64 _) (sum_i64 _)) ?_
  rintro u w5 ⟨b5,hO5,hf5⟩
  refine rnT ?_
  have hs5:=b5.size
  refine KW.rd (pre++ [(.slice A (row0 x y).length cap,row0 x y)],M',u) ⟨hJ _ _ _ _ hj3 (.of_below b5),by rw [List.length_append,hp0]; simp,?_,by omega,fun k hk=>by have:=(hm3 k hk).2; omega,row1 x y,?_,?_⟩ (hm:=by simp [hp0])
  ·dsimp only
   rw [List.length_append,hp0]
   exact hall
  ·dsimp only
   rw [List.length_append,hp0]
   rfl
  ·refine OwnS.toInts (l:=row1 x y) hO5 (fun z hz=> ?_) (fun q hq=> ?_) (by simp [row1])
   ·rw [row1,List.mem_singleton] at hz
    subst hz
    exact sum_i64 _
   ·have h1:=hf5 q hq
    exact ⟨by omega,hO5.lt hq,fun h=>by have:=(hm3 q h).2; omega⟩
 ·cases yb with
  | false =>
   refine rnT ?_
   obtain ⟨M',hx⟩:=hR.no rfl
   refine end0 Tryz.results244 (.inr ⟨_,M',hx⟩)
  | true =>
   have hr1: ¬1<r.length:=by
    have h: ¬(1:Int)<r.length:=by simpa using hend
    omega
   have hp1:pre.length=1:=by
    rcases Nat.lt_or_ge 0 pre.length with h|h
    ·omega
    ·have h0:pre.length=0:=by omega
     rw [h0] at hr
     have:r=row0 x y:=by simpa using hr.symm
     rw [this] at hr1
     simp [row0] at hr1
   obtain ⟨M',hj3,hm3⟩:=hR.yes rfl
   refine rnT ?_
   refine end0 Tryz.results244 (.inl ⟨_,M',by show (pre++ [((.slice A r.length cap,r):RwE)]).map (·.2)=_; rw [hall,hp1]; rfl,hj3⟩)
theorem rows_c (h1:v.oneCell'=true) (hc:v.cells= [v].toArray):Gives Tryz.prog 221 #[v] w fun u w'=>Below w.heap.size w w'∧ ∃g,u= .func (.func 244) #[] [.pointer (some ⟨g,0,none⟩)].toArray∧Blk w' g 23 [v]∧w.heap.size≤g:=by
 refine gv (f:=221) ?_
 refine rnT ?_
 refine TW.box rfl rfl rfl hc ?_
 rintro g w1 f1
 refine rnT ?_
 refine TW.makeFunc rfl rfl (Args.cons rfl ct Args.nil) ?_
 refine rnT ?_
 refine rt1 rfl ⟨f1.below,g,rfl,f1.blk,by have:=f1.at_; omega⟩
end Go.Proofs.YtobaafdejnimkaaGreatDoor
