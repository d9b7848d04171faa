/- Texts of this claim,joined. -/
import Derived.Test.YtffjgpoadfkjlaaGreatDoorQF
set_option linter.unusedSimpArgs false
set_option linter.unusedVariables false
set_option maxRecDepth 100000
set_option maxHeartbeats 4000000
namespace Go.Proofs.YtffjgpoadfkjlaaGreatDoor
open Go.PF Go.RowKit Go.Ord
attribute [local irreducible] TW CW KW DW
variable {w:World} {m n cap b g:Nat} {v dv:Value} {F:Nat→Prop} {d:Dist} {A:Option Addr} {S:List Int} {vs:List Value} {l:List Ev}
theorem full_c {gf:Nat} {us:List U} {uv:Value} {F:List Nat} (hwd:WfD d) (hS:SrchF w g m d us dv uv gf F) (hn: ∀u∈us,Num d u) (h16:us.length≤16) (hF:FirstOK d us fun i=>F.getD i 0) (hF2: ∀i j,i<us.length→(F.getD i 0).testBit j=true→j<us.length) :
  Gives Tryz.prog 24 #[.pointer (some ⟨g,0,none⟩)] w fun x w'=>Below w.heap.size w w' ∧
   ((x= .tuple #[.slice none 0 0,.bool false]∧ ¬Feas d (none,0) us)∨ ∃v L,x= .tuple #[v,.bool true]∧Nums w' w.heap.size v L∧(∀i∈L,i<us.length)∧ ∃T,SeqR d us L T):=by
 have hu: ∀u∈us,UOK d u:=fun u h=>(hn u h).ok
 obtain ⟨U1,ucap,rfl,_⟩:=hS.s.units.form
 refine gv (f:=24) ?_
 refine rnT ?_
 refine TW.build [1] [.const (.int .i64 (-1))] [.int .u32 ((0:Nat):Int),.int .i64 (-1)] rfl rfl rfl (Args.cons rfl ct Args.nil) (by kernel_rfl) ?_
 refine TW.newVar rfl zc75 rfl sz75 rfl rfl ?_
 rintro g1 w1 f1
 refine rnT ?_
 refine TW.makeMapL stKey rfl rfl ?_
 rintro bm w2 hbm hw2 hb2 hM2
 refine TW.ldS rfl (fun _ _ h=>(f1.blk.next hb2).fld h) ?_
 refine TW.build [] [] [.int .i64 0,.int .i64 ((0:Nat):Int),.int .i64 0] rfl rfl rfl Args.nil (by kernel_rfl) ?_
 refine TW.insertL stKey (0,none) (vz:=stpV 0 0 0) rfl Tryz.underlying126 rfl rfl rfl hM2 ?_
 rintro w3 hw3 hbut3 hM3
 refine rnT ?_
 have hne1:g1≠bm:=by have:=f1.size; have:=hbm; omega
 have hB3:Blk w3 g1 75 [.int .u32 ((0:Nat):Int),.int .i64 (-1)]:=hbut3.blk (f1.blk.next hb2) hne1
 refine TW.ldS rfl (fun _ _ h=>hB3.fld h) ?_
 refine TW.buildSlice 75 _ rfl rfl rfl eo127 (Args.cons rfl ct Args.nil) rfl rfl rfl rfl rfl ?_
 rintro g4 w4 f4
 refine rnT ?_
 refine TW.v V.nilCheck rfl ⟨ct,trivial⟩ (fun _=>trivial) ?_
 refine rnT ?_
 have hb1s:=f1.below.size
 have hbelow2:Below w.heap.size w w2:=f1.below.step hb2
 have hbelow3:Below w.heap.size w w3:=hbelow2.grown hbut3 hbelow2.size (fun q hq=>by cases hq; have:=hbm; omega)
 have hbelow4:=hbelow3.step f4.below
 have hFM0:FM w w4 bm [((0,none),stpV 0 0 0)] (.slice (some ⟨g4,0,none⟩) 1 1) [(0,none)] w4.heap.size (.slice none 0 0) []:=by
  refine ⟨hbelow4,?_,⟨1,rfl,OwnS.of_blk f4.blk rfl (by decide),fun q hq=> ?_⟩,fun q hq=> ?_,Lst.nil _ _,by omega,?_,Nat.le_refl _⟩
  ·have:=hM3.below f4.below
   rwa [show lput ([]:List (SK×Value)) (0,none) (stpV 0 0 0)= [((0,none),stpV 0 0 0)] from by unfold lput; rw [if_neg (by simp)]; rfl] at this
  ·have e:g4=q:=by simpa [Value.ownBlock] using hq
   have:=f4.at_
   omega
  ·have e:g4=q:=by simpa [Value.ownBlock] using hq
   have:=f4.blk.lt
   omega
  ·have:=f4.below.size
   omega
 refine TW.ld rfl (((hS.step hbelow4).s.blk.fld rfl)) ?_
 refine rnT ?_
 refine CW.lp [0,5,32] (fun x:Nat×List (SK×Value)×Value×List SK=> [(6,none,x.2.2.1),(33,none,.int .i64 (x.1:Int))])
  (fun x W=>x.1≤us.length∧FM w W bm x.2.1 x.2.2.1 x.2.2.2 W.heap.size (.slice none 0 0) []∧(Lev d us x.1 x.2.1 x.2.2.2∧Back d us x.2.1)∧(Feas d (none,0) us→Go.Ord.Good d us x.2.1 x.2.2.2)) (fun x=>us.length-x.1) (0,[((0,none),stpV 0 0 0)],.slice (some ⟨g4,0,none⟩) 1 1,[(0,none)]) ⟨Nat.zero_le _,hFM0,⟨Lev.start us,Back.start us⟩,fun h=>⟨(0,none),by simp,0,0,0,by simp,by rw [left_zero]; exact h⟩⟩ ?_
 rintro ⟨c,M,lvv,lv⟩ W ⟨hc,hFM,⟨hLev,hBk⟩,hgood⟩
 dsimp only at hc hFM hLev hBk hgood
 refine rnT ?_
 refine CW.pk [0,5,6,32,33,34] rfl ?_
 refine CW.condP rfl (fun hlt=> ?_) (fun hge=> ?_)
 ·have hcl:c<us.length:=by omega
  obtain ⟨LA,lcap,rfl⟩:=hFM.lvl.form
  have hbig:=hFM.lvl.big
  refine rnT ?_
  refine CW.lp [0,5,32,33,35,36] (fun x:Nat×List (SK×Value)×Value×List SK=> [(7,none,x.2.2.1),(37,none,.int .i64 (x.1:Int))])
   (fun x W'=>x.1≤lv.length∧FM w W' bm x.2.1 (.slice LA lv.length lcap) lv W.heap.size x.2.2.1 x.2.2.2∧(Lev d us (c+1) x.2.1 x.2.2.2∧Back d us x.2.1)∧Had us c x.2.1 lv∧(Feas d (none,0) us→Go.Ord.Good d us x.2.1 (lv.drop x.1)∨Go.Ord.Good d us x.2.1 x.2.2.2)) (fun x=>lv.length-x.1) (0,M,.slice none 0 0,[]) ⟨Nat.zero_le _,hFM,⟨hLev.next,hBk⟩,hLev.mem,fun h=> .inl (hgood h)⟩ ?_
  rintro ⟨j,M',nxv,nx⟩ W' ⟨hj,hFM',⟨hLev',hBk'⟩,hHad,hgood'⟩
  dsimp only at hj hFM' hLev' hBk' hHad hgood'
  refine rnT ?_
  refine CW.condP rfl (fun hlt2=> ?_) (fun hge2=> ?_)
  ·have hjl:j<lv.length:=by omega
   obtain ⟨r,hr⟩: ∃r,lv[j]?=some r:=⟨lv[j],List.getElem?_eq_getElem hjl⟩
   obtain ⟨ga,rfl,hcells⟩:=hFM'.lvl.get hr
   refine rnT ?_
   refine TW.ldS rfl (hcells) ?_
   refine TW.newVar rfl zc75 rfl sz75 rfl rfl ?_
   rintro g9 w9 f9
   refine rnT ?_
   have hFM9:=hFM'.step f9.below
   have hB9:Blk w9 g9 75 (stC r):=f9.blk
   refine TW.ldS rfl (fun _ _ h=>hB9.fld h) ?_
   refine TW.lookup1 stKey r rfl rfl Tryz.underlying126 stZ rfl rfl hFM9.map ?_
   rintro ov hov
   obtain ⟨⟨v0,hv0⟩,hcnt⟩:=hHad r (List.mem_of_getElem? hr)
   obtain ⟨t,u0,fo,n0,hv0e,_,hway,_,ht0,ht1,hk,_,hfo⟩:=hLev'.rows _ hv0
   dsimp only at hv0e hway hk
   have hn0:n0=c:=by have:=hway.cnt; unfold Cnt at this hcnt; omega
   subst hn0
   have hove:ov=stpV t u0 fo:=by
    rcases hov with hov|⟨hov,_⟩
    ·rw [once_eq hFM9.map.once hov hv0,hv0e]
    ·exact absurd rfl (hov _ hv0)
   subst hove
   refine TW.v (V.field (v:= .int .i64 t)) rfl ⟨ct,trivial⟩ (fun _=>by kernel_rfl) ?_
   refine rnT ?_
   have hsok:SOK d (r.2,t):=hway.sok hu
   have hS9:=hS.step hFM9.bel
   refine TW.ldS rfl (fun _ _ h=>hB9.fld h) ?_
   refine rnT ?_
   refine TW.cl rfl (choices_c (k:=r.1) (s:=(r.2,t)) hwd hS9 hn h16 (Nat.lt_trans hk (by decide)) hsok ⟨ht0,ht1⟩) ?_
   rintro y10 w10 ⟨hb10,L,hL,hcho⟩
   obtain ⟨CA,ccap,rfl,_⟩:=hL.form
   have hLbig:=hL.big
   have hFM10:=hFM9.step hb10
   have hB10:=hB9.next hb10
   refine rnT ?_
   refine CW.pk [0,5,7,9,10,32,33,35,36,37,48,49,50] rfl ?_
   refine CW.lp [0,5,9,10,32,33,35,36,37,48,49] (fun x:Nat×List (SK×Value)×Value×List SK=> [(7,none,x.2.2.1),(50,none,.int .i64 (x.1:Int))])
    (fun x W3=>x.1≤L.length∧FM w W3 bm x.2.1 (.slice (some ⟨ga,0,none⟩) lv.length lcap) lv W.heap.size x.2.2.1 x.2.2.2∧(Lev d us (n0+1) x.2.1 x.2.2.2∧Back d us x.2.1∧(r,stpV t u0 fo)∈x.2.1)∧Had us n0 x.2.1 lv∧Nums W3 0 (.slice CA L.length ccap) L∧(∀q,(Value.slice CA L.length ccap).ownBlock=some q→x.2.2.1.ownBlock≠some q∧bm<q)∧Blk W3 g9 75 (stC r)∧x.2.2.1.ownBlock≠some g9 ∧
     (Feas d (none,0) us→Go.Ord.Good d us x.2.1 (lv.drop (j+1))∨Go.Ord.Good d us x.2.1 x.2.2.2∨ ∃y∈L.drop x.1,∃u,us[y]?=some u∧Feas d (nxt d (r.2,t) u) (left us (r.1 ||| 1 <<< y)))) (fun x=>L.length-x.1) (0,M',nxv,nx) ⟨Nat.zero_le _,hFM10,⟨hLev',hBk',hv0e ▸ hv0⟩,hHad,?_,fun q hq=>⟨fun e=> ?_,?_⟩,hB10,fun e=> ?_,fun h=> ?_⟩ ?_
   ·obtain ⟨n,a1,a2,a3⟩:=hL
    exact ⟨n,a1,a2,fun _ _=>Nat.zero_le _⟩
   ·obtain ⟨n,a1,a2,a3⟩:=hL
    have:=a3 q hq
    have:=hFM9.nxt.lt e
    omega
   ·obtain ⟨n,a1,a2,a3⟩:=hL
    have:=a3 q hq
    have:=hFM9.map.lt
    omega
   ·have:=hFM'.nxt.lt e
    have:=f9.at_
    omega
   ·rcases hgood' h with ⟨q,hq,t',u',f',hm,hf⟩|h'
    ·rw [List.drop_eq_getElem_cons hjl] at hq
     have hrj:lv[j]=r:=by rw [List.getElem?_eq_getElem hjl] at hr; simpa using hr
     rcases List.mem_cons.1 hq with rfl|hq
     ·rw [hrj] at hm hf
      have e1:=once_eq hFM9.map.once hm hv0
      rw [hv0e] at e1
      have e2:=stpV_inj e1
      subst e2
      exact .inr (.inr (by rw [List.drop_zero]; exact Cho.feas hwd hu hS.small hF hF2 hsok hcho hf hcnt hcl))
     ·exact .inl ⟨q,hq,t',u',f',hm,hf⟩
    ·exact .inr (.inl h')
   rintro ⟨i,M3,nxv3,nx3⟩ W3 ⟨hi,hFM3,⟨hLev3,hBk3,hrow3⟩,hHad3,hL3,hdis,hB3',hdis9,hgood3⟩
   dsimp only at hi hFM3 hLev3 hBk3 hrow3 hHad3 hL3 hdis hB3' hdis9 hgood3
   refine rnT ?_
   refine CW.condP rfl (fun hlt3=> ?_) (fun hge3=> ?_)
   ·have hil:i<L.length:=by omega
    obtain ⟨y,hy⟩: ∃y,L[i]?=some y:=⟨L[i],List.getElem?_eq_getElem hil⟩
    obtain ⟨gc,rfl,hci⟩:=hL3.get hy
    obtain ⟨u,huy,hbit,hcan⟩:=hcho.mem (List.mem_of_getElem? hy)
    have hyl:y<us.length:=(List.getElem?_eq_some_iff.1 huy).1
    have nu:=hn u (List.mem_of_getElem? huy)
    have hS3:=hS.step hFM3.bel
    refine rnT ?_
    refine TW.ld rfl hci ?_
    refine rnT ?_
    refine TW.ldS rfl (fun _ _ h=>hB3'.fld h) ?_
    refine rnT ?_
    refine TW.cl rfl (after_c (k:=r.1) (o:=offI r.2) hS3.s huy (Nat.lt_trans hk (by decide)) (by omega)) ?_
    rintro y4 w11 ⟨hb11,rfl⟩
    refine TW.newVar rfl zc75 rfl sz75 rfl rfl ?_
    rintro g13 w13 f13
    refine rnT ?_
    refine CW.draw mixed (by kernel_rfl) ?_
    refine rnD ?_
    have hFM13:=(hFM3.step hb11).step f13.below
    have hS13:=hS.step hFM13.bel
    have hB13:Blk w13 g9 75 (stC r):=(hB3'.next hb11).next f13.below
    obtain ⟨ua,rfl⟩:=hS.s.units.addr (by omega)
    obtain ⟨v1,hc1,hv1⟩:=uv_at hS13.s.units huy
    obtain ⟨tt,x,kw,ke,ks,kr,rfl,mw,me,ms,mr,cw,ce,cs,cr⟩:=hv1
    have hbI:begI d (r.2,t) u=beg d (r.2,t) u:=by unfold begI; rw [dec_pos hcan,if_pos rfl]
    have hbr:=begI_rng (s:=(r.2,t)) nu
    have hbn:=(begI_nonneg (s:=(r.2,t)) nu).2 hcan
    have hsp:=nu.span
    refine DW.ldS rfl (fun _ _ h=>hB13.fld h) ?_
    refine rnD ?_
    refine DW.cl (.ex (.int .i64 (begI d (r.2,t) u))) trivial rfl (fun _ w' hb'=>begin_c (k:=r.1) (s:=(r.2,t)) hwd (hS13.step hb').s huy nu hsok ⟨show -1≤t by omega,ht1⟩) ?_
    refine rnD ?_
    refine DW.v V.nilCheck rfl ⟨ct,trivial⟩ (fun _=>trivial) ?_
    refine rnD ?_
    refine DW.ld rfl (hS13.s.blk.fld rfl) ?_
    refine rnD ?_
    refine DW.ld rfl hc1 ?_
    refine DW.invoke (.ex (.int .i64 u.span)) trivial rfl rfl (ms) rfl ct DArgs.nil (fun _ w' _=>cs w') ?_
    refine rnD ?_
    refine DW.fi [0,5,7,9,10,12,13,14,32,33,35,36,37,48,49,50] rfl fun w14 hb14=> ?_
    refine rnT ?_
    have hFM14:=hFM13.step hb14
    have hB14:=hB13.next hb14
    have hR14:Blk w14 g13 75 (stC (r.1 ||| 1 <<< y,some u.exit)):=f13.blk.next hb14
    have hL14:=(((hL3.below hb11).below f13.below).below hb14)
    refine TW.ldS rfl (fun _ _ h=>hR14.fld h) ?_
    have hway':Go.Ord.Way d us (r.1 ||| 1 <<< y) (some u.exit,begI d (r.2,t) u+u.span) (n0+1):=by
     have:=hway.step huy hbit hcan
     rw [hbI]; exact this
    have hp16:r.1 ||| 1 <<< y<2 ^ 16:=Nat.or_lt_two_pow hk (by rw [Nat.one_shiftLeft]; exact Nat.pow_lt_pow_right (by decide) (by omega))
    have hnx13: ∀q,nxv3.ownBlock=some q→q<w13.heap.size-1:=fun q hq=>by
     have:=hFM3.nxt.lt hq
     have:=hb11.size
     have:=f13.size
     have:=f13.at_
     omega
    have hyd:L.drop i=y::L.drop (i+1):=by
     rw [List.drop_eq_getElem_cons hil]
     rw [List.getElem?_eq_getElem hil] at hy
     simp only [Option.some.injEq] at hy
     rw [hy]
    have hnr: ∀q,nxv3.ownBlock=some q→q<g13:=fun q hq=>by
     have:=hFM3.nxt.lt hq
     have:=hb11.size
     have:=f13.at_
     omega
    have hfrom:From d us M3 (r.1 ||| 1 <<< y,some u.exit) (begI d (r.2,t) u+u.span) y (offI r.2):=⟨r,t,u0,fo,u,hrow3,rfl,huy,hbit,rfl,hcan,by rw [hbI]; rfl⟩
    have hnew: ∀v,(r,stpV t u0 fo)∈lput M3 (r.1 ||| 1 <<< y,some u.exit) v:=fun v=>mem_lput.2 (.inr ⟨hrow3,fun e=>by
     have e1:=congrArg (fun z:SK=>z.1.testBit y) e
     dsimp only at e1
     rw [hbit,Nat.testBit_or,Nat.one_shiftLeft,Nat.testBit_two_pow_self,Bool.or_true] at e1
     cases e1⟩)
    have htv:0≤begI d (r.2,t) u+u.span∧begI d (r.2,t) u+u.span≤3000000:=by omega
    have hg9lt:=hB3'.lt
    refine TW.lookup2 stKey (r.1 ||| 1 <<< y,some u.exit) rfl rfl Tryz.underlying126 stZ rfl rfl hFM14.map (fun hov'=> ?_) (fun v2 hov'=> ?_)
    ·skip
     refine rnT ?_
     refine TW.newVar rfl zc125 rfl sz125 rfl rfl ?_
     rintro g15 w15 f15
     refine rnT ?_
     refine CW.pk [0,5,7,9,10,12,13,14,15,16,32,33,35,36,37,48,49,50,79] rfl ?_
     have hFM15:=hFM14.step f15.below
     have hR15:=hR14.next f15.below
     have hB15:=hB14.next f15.below
     have hL15:=hL14.below f15.below
     refine CW.cond rfl (fun hc1'=> ?_) (fun hc2'=> ?_)
     ·refine rnT ?_
      refine TW.ldS rfl (fun _ _ h=>hR15.fld h) ?_
      refine TW.buildSlice 75 _ rfl rfl rfl eo127 (Args.cons rfl ct Args.nil) rfl rfl rfl rfl rfl ?_
      rintro g16 w16 f16
      have hFM16:=hFM15.step f16.below
      have hR16:=hR15.next f16.below
      have hB16:=hB15.next f16.below
      have hL16:=hL15.below f16.below
      obtain ⟨n,hnl,hown,hvg⟩:=id hFM16.nxt
      have hfew:=hLev3.few hwd hu
      refine TW.append (stC (r.1 ||| 1 <<< y,some u.exit)) rfl rfl go127 rfl hown rfl rfl (fun j v hj=>⟨⟨g16,0,none⟩,rfl,f16.blk.fld hj⟩) (fun v hv=>by simp [stC] at hv; rcases hv with rfl|rfl<;>rfl) (by omega) (by omega) ?_
      rintro nxv' w17 hown17 hg17 hnew17
      have hR17:=Blk.keptO hR16 hg17 (fun e=>by have:=hnr _ e; omega)
      have hB17:=Blk.keptO hB16 hg17 hdis9
      have hL17:=hL16.keptO hg17 (fun q hq=>(hdis q hq).1)
      have hFM17:=hFM16.app hg17 (nxv':=nxv') (nx':=nx3++ [(r.1 ||| 1 <<< y,some u.exit)]) ⟨n+1,by simp [hnl],by rw [List.flatMap_append]; simpa using hown17,fun q hq=>by
       rcases hnew17 with h|h
       ·exact hvg q (by rw [←h]; exact hq)
       ·rw [h] at hq; cases hq; exact hFM16.b2s⟩
      refine TW.v V.assign rfl ⟨ct,trivial⟩ (fun _=>trivial) ?_
      refine TW.nil (KW.pick [0,5,7,9,10,12,13,14,15,16,32,33,35,36,37,48,49,50] [(0,_,_),(5,_,_),(7,_,_),(9,_,_),(10,_,_),(12,_,_),(13,_,_),(14,_,_),(15,_,_),(16,_,_),(32,_,_),(33,_,_),(35,_,_),(36,_,_),(37,_,_),(48,_,_),(49,_,_),(50,_,_)] rfl (KW.then_ ?_))
      refine CW.seq (CW.region ?_)
      refine TW.v V.move rfl ⟨ct,trivial⟩ (fun _=>trivial) ?_
      refine TW.v V.not rfl ⟨ct,trivial⟩ (fun _=>trivial) ?_
      refine TW.v V.move rfl ⟨ct,trivial⟩ (fun _=>trivial) ?_
      refine TW.dead (.bool false) rfl (by simp [Cnd]) rfl ?_
      refine TW.dead (.bool false) rfl (by simp [Cnd]) rfl ?_
      refine TW.dead (.bool false) rfl (by simp [Cnd]) rfl ?_
      refine TW.dead (.bool false) rfl (by simp [Cnd]) rfl ?_
      refine rnT ?_
      refine CW.pk [0,5,7,9,10,12,13,14,15,16,32,33,35,36,37,48,49,50,91] rfl ?_
      refine CW.cond rfl (fun hc3'=> ?_) (fun hc4'=> ?_)
      ·refine rnT ?_
       refine TW.ldS rfl (fun _ _ h=>hR17.fld h) ?_
       refine rnT ?_
       refine TW.ld rfl (hB17.fld rfl) ?_
       refine TW.build [0,1,2] [.tmp 94,.tmp 95,.tmp 97] [.int .i64 (begI d (r.2,t) u+u.span),.int .i64 (y:Int),.int .i64 (offI r.2)] rfl rfl rfl (Args.cons rfl ct (Args.cons rfl ct (Args.cons rfl ct Args.nil))) (by kernel_rfl) ?_
       refine TW.mapUpdateL stKey (r.1 ||| 1 <<< y,some u.exit) (vz:=stpV (begI d (r.2,t) u+u.span) y (offI r.2)) rfl Tryz.underlying126 rfl rfl rfl hFM17.map ?_
       rintro w18 hs18 hbut18 hM18
       refine rnT ?_
       have hq16: ∀q,(Value.slice (some ⟨gc,0,none⟩) L.length ccap).ownBlock=some q→q<w16.heap.size:=fun q hq=>hL16.lt hq
       refine KW.rd (i+1,lput M3 (r.1 ||| 1 <<< y,some u.exit) (stpV (begI d (r.2,t) u+u.span) y (offI r.2)),nxv',nx3++ [(r.1 ||| 1 <<< y,some u.exit)]) ⟨by show i+1≤L.length; omega,hFM17.put hs18 hbut18 hM18,⟨hLev3.put hway' htv hp16 hyl (offI_ge _) ?_ (fun q=>by simp),hBk3.put hLev3 hway'.cnt hfrom,hnew _⟩,hHad3.put _ _,hL17.keptO hbut18 (fun q hq e=>by cases e; have:=(hdis _ hq).2; omega),fun q hq=>⟨fun e=> ?_,(hdis q hq).2⟩,hbut18.blk hB17 (fun e=> ?_),fun e=> ?_,fun h=> ?_⟩
       ·refine List.nodup_append.2 ⟨hLev3.nd,by simp,fun a ha b hb e=> ?_⟩
        rw [List.mem_singleton] at hb
        subst hb
        subst e
        obtain ⟨⟨v,hv⟩,_⟩:=hLev3.mem _ ha
        exact hov' _ hv rfl
       ·rcases hnew17 with h|h
        ·exact (hdis q hq).1 (by rw [←h]; exact e)
        ·rw [h] at e; cases e; have:=hq16 _ hq; omega
       ·have:=hFM'.map.lt
        have:=f9.at_
        omega
       ·rcases hnew17 with h|h
        ·exact hdis9 (by rw [←h]; exact e)
        ·rw [h] at e; cases e; have:=hB16.lt; omega
       ·have habs: ∀t' u' f',((r.1 ||| 1 <<< y,some u.exit),stpV t' u' f')∈M3→begI d (r.2,t) u+u.span≤t':=fun t' u' f' hm=>absurd rfl (hov' _ hm)
        rcases hgood3 h with h'|h'|⟨z,hz,u',hu',hf'⟩
        ·exact .inl (h'.put hu hFM14.map.once habs)
        ·exact .inr (.inl ((h'.put hu hFM14.map.once habs).more (fun q hq=>by simp [hq])))
        ·rw [hyd] at hz
         rcases List.mem_cons.1 hz with rfl|hz
         ·rw [huy] at hu'; cases hu'
          refine .inr (.inl ⟨_,List.mem_append_right _ (List.mem_singleton.2 rfl),_,_,_,mem_lput.2 (.inl rfl),?_⟩)
          rw [hbI]; exact hf'
         ·exact .inr (.inr ⟨z,hz,u',hu',hf'⟩)
      ·exact absurd hc4' (by simp)
     ·exact absurd hc2' (by simp)
    ·obtain ⟨t2,u2,f2,n2,hv2,_,hw2',_,ht20,ht21,_⟩:=hLev3.rows _ hov'
     dsimp only at hv2
     subst hv2
     have hth:(r.1 ||| 1 <<< y,some u.exit)∈nx3:=hLev3.there hov' hway'.cnt
     have honly: ∀t' u' f',((r.1 ||| 1 <<< y,some u.exit),stpV t' u' f')∈M3→t'=t2:=fun t' u' f' hm=>stpV_inj (once_eq hFM14.map.once hm hov')
     refine rnT ?_
     refine TW.newVar rfl zc125 rfl sz125 rfl rfl ?_
     rintro g15 w15 f15
     refine rnT ?_
     refine CW.pk [0,5,7,9,10,12,13,14,15,16,32,33,35,36,37,48,49,50,79] rfl ?_
     have hFM15:=hFM14.step f15.below
     have hR15:=hR14.next f15.below
     have hB15:=hB14.next f15.below
     have hL15:=hL14.below f15.below
     refine CW.cond rfl (fun hc1'=> ?_) (fun hc2'=> ?_)
     ·exact absurd hc1' (by simp)
     ·refine rnT ?_
      refine TW.ld rfl (f15.blk.fld rfl) ?_
      refine rnT ?_
      refine CW.cond rfl (fun hc3'=> ?_) (fun hc4'=> ?_)
      ·refine rnT ?_
       refine TW.ldS rfl (fun _ _ h=>hR15.fld h) ?_
       refine rnT ?_
       refine TW.ld rfl (hB15.fld rfl) ?_
       refine TW.build [0,1,2] [.tmp 94,.tmp 95,.tmp 97] [.int .i64 (begI d (r.2,t) u+u.span),.int .i64 (y:Int),.int .i64 (offI r.2)] rfl rfl rfl (Args.cons rfl ct (Args.cons rfl ct (Args.cons rfl ct Args.nil))) (by kernel_rfl) ?_
       refine TW.mapUpdateL stKey (r.1 ||| 1 <<< y,some u.exit) (vz:=stpV (begI d (r.2,t) u+u.span) y (offI r.2)) rfl Tryz.underlying126 rfl rfl rfl hFM15.map ?_
       rintro w18 hs18 hbut18 hM18
       refine rnT ?_
       have hless:begI d (r.2,t) u+u.span<t2:=by simpa using hc3'
       have hle: ∀t' u' f',((r.1 ||| 1 <<< y,some u.exit),stpV t' u' f')∈M3→begI d (r.2,t) u+u.span≤t':=fun t' u' f' hm=>by have:=honly t' u' f' hm; omega
       refine KW.rd (i+1,lput M3 (r.1 ||| 1 <<< y,some u.exit) (stpV (begI d (r.2,t) u+u.span) y (offI r.2)),nxv3,nx3) ⟨by show i+1≤L.length; omega,hFM15.put hs18 hbut18 hM18,⟨hLev3.put hway' htv hp16 hyl (offI_ge _) hLev3.nd (fun q=>⟨.inl,fun h=>h.elim id (fun e=>e ▸ hth)⟩),hBk3.put hLev3 hway'.cnt hfrom,hnew _⟩,hHad3.put _ _,hL15.keptO hbut18 (fun q hq e=>by cases e; have:=(hdis _ hq).2; omega),hdis,hbut18.blk hB15 (fun e=> ?_),hdis9,fun h=> ?_⟩
       ·have:=hFM'.map.lt
        have:=f9.at_
        omega
       ·rcases hgood3 h with h'|h'|⟨z,hz,u',hu',hf'⟩
        ·exact .inl (h'.put hu hFM14.map.once hle)
        ·exact .inr (.inl (h'.put hu hFM14.map.once hle))
        ·rw [hyd] at hz
         rcases List.mem_cons.1 hz with rfl|hz
         ·rw [huy] at hu'; cases hu'
          refine .inr (.inl ⟨_,hth,_,_,_,mem_lput.2 (.inl rfl),?_⟩)
          rw [hbI]; exact hf'
         ·exact .inr (.inr ⟨z,hz,u',hu',hf'⟩)
      ·refine rnT ?_
       have hmore:t2≤begI d (r.2,t) u+u.span:=by simpa using hc4'
       refine KW.rd (i+1,M3,nxv3,nx3) ⟨by show i+1≤L.length; omega,hFM15,⟨hLev3,hBk3,hrow3⟩,hHad3,hL15,hdis,hB15,hdis9,fun h=> ?_⟩
       rcases hgood3 h with h'|h'|⟨z,hz,u',hu',hf'⟩
       ·exact .inl h'
       ·exact .inr (.inl h')
       ·rw [hyd] at hz
        rcases List.mem_cons.1 hz with rfl|hz
        ·rw [huy] at hu'; cases hu'
         refine .inr (.inl ⟨_,hth,_,_,_,hov',Feas.better (better_time hmore) (fun x hx=> ?_) ?_⟩)
         ·obtain ⟨q,_,hq⟩:=Go.Ord.mem_left.1 hx
          exact hu x (List.mem_of_getElem? hq)
         ·rw [hbI]; exact hf'
        ·exact .inr (.inr ⟨z,hz,u',hu',hf'⟩)
   ·refine rnT ?_
    have hie:i=L.length:=by omega
    refine KW.rd (j+1,M3,nxv3,nx3) ⟨by show j+1≤lv.length; omega,hFM3,⟨hLev3,hBk3⟩,hHad3,fun h=> ?_⟩
    rcases hgood3 h with h'|h'|⟨z,hz,_⟩
    ·exact .inl h'
    ·exact .inr h'
    ·rw [hie,List.drop_length] at hz; cases hz
  ·refine rnT ?_
   have hje:j=lv.length:=by omega
   refine KW.rd (c+1,M',nxv,nx) ⟨by show c+1≤us.length; omega,⟨hFM'.bel,hFM'.map,hFM'.nxt.less (by have:=hFM'.bb; omega),fun q hq=>hFM'.nxt.lt hq,Lst.nil _ _,hFM'.b0,hFM'.map.lt,Nat.le_refl _⟩,⟨hLev',hBk'⟩,fun h=> ?_⟩
   rcases hgood' h with ⟨q,hq,_⟩|h'
   ·rw [hje,List.drop_length] at hq; cases hq
   ·exact h'
 ·have hce:c=us.length:=by omega
  subst hce
  obtain ⟨LA,lcap,rfl⟩:=hFM.lvl.form
  refine rnT ?_
  refine CW.condP rfl (fun hz=> ?_) (fun hnz=> ?_)
  ·refine rnT ?_
   refine rt2 rfl ⟨hFM.bel,.inl ⟨rfl,fun h=> ?_⟩⟩
   obtain ⟨q,hq,_⟩:=hgood h
   have:lv= []:=List.eq_nil_of_length_eq_zero (by omega)
   rw [this] at hq; cases hq
  have hlp:0<lv.length:=by omega
  obtain ⟨r,hr⟩: ∃r,lv[0]?=some r:=⟨lv[0],List.getElem?_eq_getElem hlp⟩
  obtain ⟨ga,rfl,hcells⟩:=hFM.lvl.get hr
  obtain ⟨⟨v0,hv0⟩,hcnt⟩:=hLev.mem r (List.mem_of_getElem? hr)
  obtain ⟨t,u0,fo,n0,hv0e,_,hway,_,ht0,ht1,hk,_,hfo⟩:=hLev.rows _ hv0
  dsimp only at hway hk
  have hfeas:Feas d (none,0) us:=by
   have hn0:n0=us.length:=by have:=hway.cnt; unfold Cnt at this hcnt; omega
   subst hn0
   exact hway.feas
  have hSW:=hS.step hFM.bel
  refine rnT ?_
  refine TW.v V.nilCheck rfl ⟨ct,trivial⟩ (fun _=>trivial) ?_
  refine rnT ?_
  refine TW.ld rfl (hSW.s.blk.fld rfl) ?_
  refine rnT ?_
  refine TW.makeSlice rfl rfl (zero1_of go37 ze3 rfl) rfl rfl (by omega) (by omega) ?_
  rintro g17 w17 f17
  refine rnT ?_
  refine CW.pk [0,5,6,17,32,33] rfl ?_
  refine CW.drawR mixed fun W28 hb28=> ?_
  refine RW.draw .weak 11 (by kernel_rfl) (by kernel_rfl) rfl rfl hb28 ?_
  refine rnD ?_
  refine DW.v V.nilCheck rfl ⟨ct,trivial⟩ (fun _=>trivial) ?_
  refine rnD ?_
  have hS17:=hSW.step f17.below
  have hFM17:=hFM.step f17.below
  obtain ⟨gb,hgb,hcells17⟩:=hFM17.lvl.get hr
  cases hgb
  refine DW.ld rfl (hS17.s.blk.fld rfl) ?_
  refine rnD ?_
  refine DW.ldS rfl (hcells17) ?_
  refine DW.allocP rfl zc75 ?_
  refine rnD ?_
  refine DW.nil (DW.finP [5,17,18,19,120] rfl fun vs w28 hb28' hs28=>KW.rk' ?_)
  obtain ⟨v5,v17,v18,v19,v120,rfl,h5,h17,h18,h19,h120⟩:=Sats.five hs28
  cases h5
  cases h17
  cases h18
  cases h120
  obtain ⟨g19,rfl,hg19,hB19⟩:=h19
  refine RW.one (by kernel_rfl) (by kernel_rfl) rfl ?_
  refine TW.storeBlkF rfl rfl rfl hB19 sz75 rfl rfl rfl ?_
  rintro w29 hB29 hg29 hsz29
  refine TW.nil (KW.pick [5,17,18,19] [(5,_,_),(17,_,_),(18,_,_),(19,_,_)] rfl (KW.rk ?_))
  refine RW.end rfl (KW.pick [5,17,18,19] [(5,_,_),(17,_,_),(18,_,_),(19,_,_)] rfl (KW.then_ ?_))
  refine CW.block ?_
  have hbel28:Below w.heap.size w w28:=(hFM17.bel).step hb28'
  have hw17:w.heap.size≤w17.heap.size:=hFM17.bel.size
  have hg17:w.heap.size≤g17:=by have:=f17.at_; have:=hFM.bel.size; omega
  have hg17':g17<w17.heap.size:=f17.blk.lt
  have hbm17:bm<g17:=by have:=f17.at_; have:=hFM.map.lt; omega
  have hb0:=hFM.b0
  have hbel29:Below w.heap.size w w29:=hbel28.grown hg29 hbel28.size (fun q hq=>by cases hq; omega)
  refine CW.lp [5,17] (fun x:Nat×Nat=> [(18,none,.int .i64 ((x.1:Int)-1)),(19,none,.pointer (some ⟨x.2,0,none⟩))])
   (fun x W3=>x.1≤us.length∧Below w.heap.size w W3∧MapL stKey W3 bm M∧g17<W3.heap.size∧g17<x.2∧ ∃xs:List Nat,(xs.length=us.length∧(∀y∈xs,y<us.length∨y=0)∧Blk W3 g17 3 (xs.map fun y:Nat=>Value.int .i64 (y:Int)))∧ ∃q:SK,q.1<2 ^ 32∧Blk W3 x.2 75 (stC q)∧RwB d us M xs x.1 q) (fun x=>x.1) (us.length,g19) ⟨Nat.le_refl _,hbel29,(hFM17.map.below hb28').but hg29 (by omega),?_,by show g17<g19; omega,List.replicate us.length 0,⟨by simp,fun y hy=> .inr (List.eq_of_mem_replicate hy),?_⟩,r,Nat.lt_trans hk (by decide),hB29,hcnt,t,u0,fo,[],hv0e ▸ hv0,by rw [List.drop_of_length_le (by simp)]; exact Rest.stop hcnt⟩ ?_
  ·have:=hb28'.size
   show g17<w29.heap.size
   omega
  ·have:=But.blk (k:=g17) hg29 (f17.blk.next hb28') (by omega)
   simpa using this
  rintro ⟨x,gx⟩ W3 ⟨hx,hB3,hM3,hg17w,hgx,xs,⟨hxl,hxb,hBx⟩,q,hqk,hBq,hcq,tq,uq,fq,Tq,hmq,hrest⟩
  dsimp only at hx hB3 hM3 hg17w hgx hxl hBx hBq hcq hrest
  have hbw3:=hB3.size
  refine rnT ?_
  refine CW.pk [5,17,18,19,122] rfl ?_
  refine CW.condP rfl (fun hge1=> ?_) (fun hlt1=> ?_)
  ·have hx1:1≤x:=by omega
   refine rnT ?_
   refine TW.ldS rfl (fun _ _ h=>hBq.fld h) ?_
   refine TW.lookup1 stKey q rfl rfl Tryz.underlying126 stZ rfl rfl hM3 ?_
   rintro ov hov
   have hove:ov=stpV tq uq fq:=by
    rcases hov with h|⟨h,_⟩
    ·exact once_eq hM3.once h hmq
    ·exact absurd rfl (h _ hmq)
   subst hove
   obtain ⟨qq,t',u',f',xx,hq1,hq2,hq3,hq4,hq5,hq6,hq7,hq8,hq9,hq10⟩:=(hBk.from hmq hcq hx1).cnt hLev hcq
   subst hq2
   have hu4:uq<us.length∨uq=0:= .inl (List.getElem?_eq_some_iff.1 hq3).1
   have hback:RwB d us M (xs.set (((x:Int)-1).toNat) uq) (x-1) (andN q.1 (1 <<< uq),qq.2):=by
    have e1:andN q.1 (1 <<< uq)=qq.1:=by rw [hq5]; exact andN_or (Nat.lt_trans hq8 (by decide)) hq4
    rw [e1]
    refine ⟨hq9,t',u',f',xx::Tq,hq1,?_⟩
    rw [show ((x:Int)-1).toNat=x-1 by omega,set_drop (by omega),show x-1+1=x by omega]
    exact hrest.step hq3 hq4 hq5 hq6 hq7
   refine TW.newVar rfl zc125 rfl sz125 rfl rfl ?_
   rintro g20 w20 f20
   refine rnT ?_
   have hB20:Blk w20 g20 125 [.int .i64 tq,.int .i64 (uq:Int),.int .i64 (offI qq.2)]:=f20.blk
   have hBx20:=hBx.next f20.below
   have hBq20:=hBq.next f20.below
   refine TW.ld rfl (hB20.fld rfl) ?_
   refine rnT ?_
   refine TW.storeFld rfl sz3 rfl rfl hBx20 (by simp; omega) rfl ?_
   rintro w21 hB21 hbut21 hsz21
   have hne20:g20≠g17:=by have:=f20.at_; omega
   have hB20':=hbut21.blk hB20 hne20
   have hBq21:=hbut21.blk hBq20 (by omega)
   have hM21:=(hM3.below f20.below).but hbut21 (by omega)
   have hb21:Below w.heap.size w w21:=(hB3.step f20.below).grown hbut21 (hB3.step f20.below).size (fun q hq=>by cases hq; omega)
   refine rnT ?_
   refine CW.drawR mixed fun W33 hb33=> ?_
   refine RW.draw .weak 9 (by kernel_rfl) (by kernel_rfl) rfl rfl hb33 ?_
   refine rnD ?_
   refine DW.ld rfl (hBq21.fld rfl) ?_
   refine rnD ?_
   refine DW.ld rfl (hB20'.fld rfl) ?_
   refine DW.v V.shl32 rfl ⟨ct,ct,trivial⟩ (fun _=>by omega) ?_
   refine DW.v V.andNot32 rfl ⟨ct,ct,trivial⟩ (fun _=>trivial) ?_
   refine rnD ?_
   refine DW.ld rfl (hB20'.fld rfl) ?_
   refine DW.build [0,1] [.tmp 138,.tmp 140] [.int .u32 ((andN q.1 (1 <<< uq):Nat):Int),.int .i64 (offI qq.2)] rfl rfl rfl rfl (DArgs.cons rfl ct (DArgs.cons rfl ct DArgs.nil)) (by kernel_rfl) ?_
   refine DW.nil (DW.fin [5,17,18,19,20,141] [(5,_,_),(17,_,_),(18,_,_),(19,_,_),(20,_,_),(141,_,_)] rfl (fun w22 hb22=>KW.rk' ?_))
   refine RW.one (by kernel_rfl) (by kernel_rfl) rfl ?_
   have hBq22:=hBq21.next hb22
   refine TW.storeBlkF rfl rfl rfl hBq22 sz75 rfl rfl rfl ?_
   rintro w23 hBq23 hg23 hsz23
   refine TW.nil (KW.pick [5,17,18,19,20] [(5,_,_),(17,_,_),(18,_,_),(19,_,_),(20,_,_)] rfl (KW.rk ?_))
   refine RW.end rfl (KW.pick [5,17,18,19,20] [(5,_,_),(17,_,_),(18,_,_),(19,_,_),(20,_,_)] rfl (KW.blockN (KW.then_ ?_)))
   refine rnT ?_
   have hb22':=hb21.step hb22
   have hb23:Below w.heap.size w w23:=hb22'.grown hg23 hb22'.size (fun q hq=>by cases hq; omega)
   refine TW.ldS rfl (fun _ _ h=>hBq23.fld h) ?_
   refine rnT ?_
   refine TW.pk [5,17,18,19,20,142] rfl ?_
   refine TW.newVar rfl zc75 rfl sz75 rfl rfl ?_
   rintro g24 w24 f24
   refine rnT ?_
   have hs24:=f24.at_
   have hs22:=hb22.size
   have hs20:=f20.below.size
   refine KW.rd (x-1,g24) ⟨by show x-1≤us.length; omega,hb23.step f24.below,((hM21.below hb22).but hg23 (by omega)).below f24.below,?_,?_,xs.set (((x:Int)-1).toNat) uq,⟨by simp [hxl],fun y hy=> ?_,?_⟩,(andN q.1 (1 <<< uq),qq.2),andN_lt _ _,f24.blk,hback⟩ (hp:=by rw [show (((x-1:Nat):Int))=(x:Int)-1 by omega]; rfl)
   ·show g17<w24.heap.size
    have:=f24.below.size
    omega
   ·show g17<g24
    omega
   ·rcases List.mem_or_eq_of_mem_set hy with h|rfl
    ·exact hxb y h
    ·exact hu4
   ·have h1:=((But.blk (k:=g17) hg23 (hB21.next hb22) (by show g17≠gx; omega)).next f24.below)
    rw [List.map_set]
    simpa using h1
  ·have hx0:x=0:=by omega
   have hseq: ∃T,SeqR d us xs T:=by
    rw [hx0] at hcq hrest
    obtain ⟨e1,e2⟩:=hBk.none hLev hmq hcq
    rw [e1,e2,List.drop_zero] at hrest
    exact ⟨Tq,hrest.all⟩
   refine rnT ?_
   refine rt2 rfl ⟨hB3,.inr ⟨_,xs,rfl,⟨xs.length,rfl,?_,fun q hq=> ?_⟩,fun y hy=> ?_,hseq⟩⟩
   ·rw [hxl]; exact OwnS.of_blk hBx (by simp [hxl]) (by omega)
   ·have e:g17=q:=by simpa [Value.ownBlock] using hq
    omega
   ·rcases hxb y hy with h|h
    ·exact h
    ·have:=List.length_pos_of_mem hy
     omega
theorem isNaN_c {x:Int}:Gives Tryz.prog 97 #[.int .i64 x] w fun y w'=>Below w.heap.size w w'∧y= .bool false:=by
 refine gv (f:=97) ?_
 refine rnT ?_
 refine rt1 rfl ⟨Below.refl _ _,by simp⟩
def cmpI (a b:Int):Int:=if a<b then -1 else if a>b then 1 else 0
theorem compare_c {a b:Int}:Gives Tryz.prog 49 #[.int .i64 a,.int .i64 b] w fun y w'=>Below w.heap.size w w'∧y= .int .i64 (cmpI a b):=by
 refine gv (f:=49) ?_
 refine rnT ?_
 refine TW.cl rfl (isNaN_c) ?_
 rintro y1 w1 ⟨hb1,rfl⟩
 refine rnT ?_
 refine TW.cl rfl (isNaN_c) ?_
 rintro y2 w2 ⟨hb2,rfl⟩
 refine rnT ?_
 refine CW.cond rfl (fun h1=> ?_) (fun h2=> ?_)
 ·cases h1
 refine rnT ?_
 refine CW.cond rfl (fun h3=> ?_) (fun h4=> ?_)
 ·cases h3
 refine rnT ?_
 refine CW.condP rfl (fun h5=> ?_) (fun h6=> ?_)
 ·refine rnT ?_
  refine rt1 rfl ⟨hb1.step hb2,by unfold cmpI; rw [if_pos h5]⟩
 refine rnT ?_
 refine CW.condP rfl (fun h7=> ?_) (fun h8=> ?_)
 ·refine rnT ?_
  refine rt1 rfl ⟨hb1.step hb2,by unfold cmpI; rw [if_neg h6,if_pos h7]⟩
 refine rnT ?_
 refine rt1 rfl ⟨hb1.step hb2,by unfold cmpI; rw [if_neg h6,if_neg h8]⟩
theorem scmp_c {a b:Value} {u v:U} (ha:UV m a u) (hb:UV m b v):Gives Tryz.prog 48 #[a,b] w fun y w'=>Below w.heap.size w w'∧y= .int .i64 (cmpI u.high v.high):=by
 obtain ⟨t,x,kw,ke,ks,kr,rfl,mw,me,ms,mr,cw,ce,cs,cr⟩:=ha
 obtain ⟨t',x',kw',ke',ks',kr',rfl,mw',me',ms',mr',cw',ce',cs',cr'⟩:=hb
 refine gv (f:=48) ?_
 refine rnT ?_
 refine TW.invoke0 rfl rfl (mw) rfl Args.nil (cw _) ?_
 rintro y1 w1 ⟨hb1,rfl⟩
 refine rnT ?_
 refine TW.invoke0 rfl rfl (mw') rfl Args.nil (cw' _) ?_
 rintro y2 w2 ⟨hb2,rfl⟩
 refine rnT ?_
 refine TW.cl rfl (compare_c) ?_
 rintro y3 w3 ⟨hb3,rfl⟩
 refine rnT ?_
 refine rt1 rfl ⟨(hb1.step hb2).step hb3,rfl⟩
theorem UV.one {u:U} (h:UV m v u):v.oneCell'=true:=by
 obtain ⟨t,x,kw,ke,ks,kr,rfl,_⟩:=h
 rfl
def UVs (m:Nat) (vs:List Value):Prop:= ∀v∈vs,∃u,UV m v u
theorem insertion_c (hO:OwnS w 78 1 (.slice A n cap) n vs) (hn:n≤16) (hU:UVs m vs) :
  Gives Tryz.prog 131 #[.slice A n cap,.int .i64 0,.int .i64 (n:Int),.func (.func 48) #[] #[]] w fun _ w'=>w.grownBy w' (Value.slice A n cap).ownBlock∧ ∃vs',vs'.Perm vs∧OwnS w' 78 1 (.slice A n cap) n vs':=by
 have hl:vs.length=n:=by simpa using hO.1
 refine gv (f:=131) ?_
 refine rnT ?_
 refine CW.lp [0,1,2,3] (fun x:Nat×List Value=> [(8,none,.int .i64 (x.1:Int))])
  (fun x W=>1≤x.1∧x.1≤n+1∧w.grownBy W (Value.slice A n cap).ownBlock∧x.2.Perm vs∧OwnS W 78 1 (.slice A n cap) n x.2) (fun x=>n+1-x.1) (1,vs) ⟨Nat.le_refl _,by show 1≤n+1; omega,⟨rfl,rfl,rfl,Nat.le_refl _,fun _ _ _=>rfl⟩,List.Perm.refl _,hO⟩ ?_
 rintro ⟨i,vs1⟩ W ⟨hi1,hin,hgr,hp,hO1⟩
 dsimp only at hi1 hin hgr hp hO1
 refine rnT ?_
 refine CW.condP rfl (fun hlt=> ?_) (fun hge=> ?_)
 ·have hin':i<n:=by omega
  obtain ⟨g,rfl⟩:=hO1.addr (by rw [hp.length_eq,hl]; omega)
  refine rnT ?_
  refine CW.lp [0,1,2,3,8] (fun x:Nat×List Value=> [(9,none,.int .i64 (x.1:Int))])
   (fun x W=>x.1≤i∧w.grownBy W (some g)∧x.2.Perm vs∧OwnS W 78 1 (.slice (some ⟨g,0,none⟩) n cap) n x.2) (fun x=>x.1) (i,vs1) ⟨Nat.le_refl _,hgr,hp,hO1⟩ ?_
  rintro ⟨j,vs2⟩ W2 ⟨hji,hgr2,hp2,hO2⟩
  dsimp only at hji hgr2 hp2 hO2
  have hl2:vs2.length=n:=by rw [hp2.length_eq,hl]
  refine rnT ?_
  refine CW.draw mixed (by kernel_rfl) ?_
  refine rnD ?_
  by_cases hj:j=0
  ·skip
   refine DW.dead (.bool false) rfl (by simp [Cnd]; omega) rfl rfl ?_
   refine DW.dead (.bool false) rfl (by simp [Cnd]; omega) rfl rfl ?_
   refine DW.dead (.bool false) rfl (by simp [Cnd]; omega) rfl rfl ?_
   refine DW.dead (.bool false) rfl (by simp [Cnd]; omega) rfl rfl ?_
   refine DW.dead (.bool false) rfl (by simp [Cnd]; omega) rfl rfl ?_
   refine DW.dead (.bool false) rfl (by simp [Cnd]; omega) rfl rfl ?_
   refine DW.dead (.bool false) rfl (by simp [Cnd]; omega) rfl rfl ?_
   refine DW.dead (.bool false) rfl (by simp [Cnd]; omega) rfl rfl ?_
   refine rnD ?_
   refine DW.fi [0,1,2,3,8,9,34] rfl fun w3 hb3=> ?_
   refine KW.then_ ?_
   refine CW.cond rfl (fun hyes=> ?_) (fun hno=> ?_)
   ·exfalso
    simp [hj] at hyes
   refine rnT ?_
   refine KW.rd (i+1,vs2) ⟨by show 1≤i+1; omega,by show i+1≤n+1; omega,grown_trans hgr2 (But.of_below hb3),hp2,hO2.below hb3⟩
  ·obtain ⟨v1,hv1⟩: ∃v,vs2[j]?=some v:=⟨vs2[j]'(by omega),List.getElem?_eq_getElem (by omega)⟩
   obtain ⟨v2,hv2⟩: ∃v,vs2[j-1]?=some v:=⟨vs2[j-1]'(by omega),List.getElem?_eq_getElem (by omega)⟩
   obtain ⟨u1,hu1⟩:=hU v1 (hp2.mem_iff.1 (List.mem_of_getElem? hv1))
   obtain ⟨u2,hu2⟩:=hU v2 (hp2.mem_iff.1 (List.mem_of_getElem? hv2))
   have hc1:W2.cell? (Addr.add ⟨g,0,none⟩ ((j:Int).toNat*1))=some v1:=hO2.cell1 (by simpa using hv1)
   have hc2:W2.cell? (Addr.add ⟨g,0,none⟩ (((j:Int)-1).toNat*1))=some v2:=hO2.cell1 (by rw [Nat.mul_one,show ((j:Int)-1).toNat=j-1 by omega]; exact hv2)
   refine DW.ld rfl hc1 ?_
   refine rnD ?_
   refine DW.ld rfl hc2 ?_
   refine DW.call (.ex (.int .i64 (cmpI u1.high u2.high))) trivial rfl rfl en48 rfl id (DArgs.cons rfl id (DArgs.cons rfl id DArgs.nil)) (fun _ w' _=>scmp_c hu1 hu2) ?_
   refine rnD ?_
   refine DW.fi [0,1,2,3,8,9,34] rfl fun w3 hb3=> ?_
   refine KW.then_ ?_
   refine CW.cond rfl (fun hyes=> ?_) (fun hno=> ?_)
   ·have hO3:=hO2.below hb3
    have hc1':=(hb3.cell (block_lt_of_cell hc1)).trans hc1
    have hc2':=(hb3.cell (block_lt_of_cell hc2)).trans hc2
    refine rnT ?_
    refine CW.drawR mixed fun W4 hb4=> ?_
    refine RW.pure (by kernel_rfl) (by kernel_rfl) (fun _ _ d _ _ h=>by cases d<;>exact h) rfl rfl rfl (fun _ h=>by cases h) (fun a w ha=>X.move (ha.eval rfl trivial)) ?_
    refine RW.pure (by kernel_rfl) (by kernel_rfl) (fun _ _ d _ _ h=>by cases d<;>exact h) rfl rfl rfl (fun _ h=>by cases h) (fun a w ha=>X.move (ha.eval rfl trivial)) ?_
    refine RW.pure (by kernel_rfl) (by kernel_rfl) (fun _ _ d _ _ h=>by cases d<;>exact h) rfl rfl rfl (fun _ h=>by cases h) (fun a w ha=>X.move (ha.eval rfl trivial)) ?_
    refine RW.pure (by kernel_rfl) (by kernel_rfl) (fun _ _ d _ _ h=>by cases d<;>exact h) rfl rfl rfl (fun _ h=>by cases h) (fun a w ha=>X.move (ha.eval rfl trivial)) ?_
    refine RW.pure (by kernel_rfl) (by kernel_rfl) (fun _ _ d _ _ h=>by cases d<;>exact h) rfl rfl rfl (fun _ h=>by cases h) (fun a w ha=>X.sub (ha.eval rfl trivial) (ha.eval rfl trivial) (by (try dsimp only); omega)) ?_
    refine RW.pure (by kernel_rfl) (by kernel_rfl) (fun _ _ d _ _ h=>by cases d<;>exact h) rfl rfl rfl (fun _ h=>by cases h) (fun a w ha=>X.move (ha.eval rfl trivial)) ?_
    refine RW.pure (by kernel_rfl) (by kernel_rfl) (fun _ _ d _ _ h=>by cases d<;>exact h) rfl rfl rfl (fun _ h=>by cases h) (fun a w ha=>X.move (ha.eval rfl trivial)) ?_
    refine RW.pure (by kernel_rfl) (by kernel_rfl) (fun _ _ d _ _ h=>by cases d<;>exact h) rfl rfl rfl (fun _ h=>by cases h) (fun a w ha=>X.sub (ha.eval rfl trivial) (ha.eval rfl trivial) (by (try dsimp only); omega)) ?_
    refine RW.pure (by kernel_rfl) (by kernel_rfl) (fun _ _ d _ _ h=>by cases d<;>exact h) rfl rfl rfl (fun _ h=>by cases h) (fun a w ha=>X.indexAddr Tryz.underlying65 sz78 (ha.eval rfl trivial) (ha.eval rfl trivial) (by (try dsimp only); omega)) ?_
    refine RW.draw .weak 14 (by kernel_rfl) (by kernel_rfl) rfl rfl hb4 ?_
    refine DW.ld rfl (hc2') ?_
    refine rnD ?_
    refine DW.ld rfl (hc1') ?_
    refine DW.nil (DW.fin [0,1,2,3,8,9,37,38,39,41,46,50] [(0,_,_),(1,_,_),(2,_,_),(3,_,_),(8,_,_),(9,_,_),(37,_,_),(38,_,_),(39,_,_),(41,_,_),(46,_,_),(50,_,_)] rfl (fun w5 hb5=>KW.rk' ?_))
    refine RW.one (by kernel_rfl) (by kernel_rfl) rfl ?_
    refine TW.v V.indexAddr rfl ⟨ct,ct,trivial⟩ (fun _=>by (try dsimp only); omega) ?_
    refine TW.nil (KW.pick [0,1,2,3,8,9,39,41,46,50,51] [(0,_,_),(1,_,_),(2,_,_),(3,_,_),(8,_,_),(9,_,_),(39,_,_),(41,_,_),(46,_,_),(50,_,_),(51,_,_)] rfl (KW.rk ?_))
    refine RW.one (by kernel_rfl) (by kernel_rfl) rfl ?_
    have hO5:=hO3.below hb5
    refine TW.storeRow1 rfl sz78 rfl rfl hO5 (by omega) hu2.one ?_
    rintro w6 hO6 hbut6 hsz6
    refine TW.nil (KW.pick [0,1,2,3,8,9,39,41,50] [(0,_,_),(1,_,_),(2,_,_),(3,_,_),(8,_,_),(9,_,_),(39,_,_),(41,_,_),(50,_,_)] rfl (KW.rk ?_))
    refine RW.one (by kernel_rfl) (by kernel_rfl) rfl ?_
    refine TW.v V.indexAddr rfl ⟨ct,ct,trivial⟩ (fun _=>by (try dsimp only); omega) ?_
    refine TW.nil (KW.pick [0,1,2,3,8,9,50,52] [(0,_,_),(1,_,_),(2,_,_),(3,_,_),(8,_,_),(9,_,_),(50,_,_),(52,_,_)] rfl (KW.rk ?_))
    refine RW.one (by kernel_rfl) (by kernel_rfl) rfl ?_
    refine TW.storeRow1 rfl sz78 rfl rfl hO6 (by rw [List.length_set]; omega) hu1.one ?_
    rintro w7 hO7 hbut7 hsz7
    refine TW.nil (KW.pick [0,1,2,3,8,9] [(0,_,_),(1,_,_),(2,_,_),(3,_,_),(8,_,_),(9,_,_)] rfl (KW.rk ?_))
    refine RW.end rfl (KW.pick [0,1,2,3,8,9] [(0,_,_),(1,_,_),(2,_,_),(3,_,_),(8,_,_),(9,_,_)] rfl (KW.blockN (KW.then_ ?_)))
    refine rnT ?_
    refine KW.rd (j-1,(vs2.set ((j:Int).toNat*1) v2).set (((j:Int)-1).toNat*1) v1) ⟨by show j-1≤i; omega,grown_trans (grown_trans (grown_trans (grown_trans hgr2 (But.of_below hb3)) (But.of_below hb5)) hbut6) hbut7,?_,hO7⟩ (hp:=by rw [show (((j-1:Nat):Int))=(j:Int)-1 by omega]; rfl)
    refine List.Perm.trans ?_ hp2
    have e1:(j:Int).toNat*1=j:=by omega
    have e2:((j:Int)-1).toNat*1=j-1:=by omega
    show ((vs2.set ((j:Int).toNat*1) v2).set (((j:Int)-1).toNat*1) v1).Perm vs2
    rw [e1,e2]
    have h1:vs2[j]'(by omega)=v1:=by rw [List.getElem?_eq_getElem (by omega)] at hv1; simpa using hv1
    have h2:vs2[j-1]'(by omega)=v2:=by rw [List.getElem?_eq_getElem (by omega)] at hv2; simpa using hv2
    rw [←h1,←h2]
    exact List.set_set_perm (by omega) (by omega)
   ·refine rnT ?_
    refine KW.rd (i+1,vs2) ⟨by show 1≤i+1; omega,by show i+1≤n+1; omega,grown_trans hgr2 (But.of_below hb3),hp2,hO2.below hb3⟩
 ·refine rnT ?_
  refine end0 Tryz.results131 ⟨hgr,vs1,hp,hO1⟩
theorem stable_c (hO:OwnS w 78 1 (.slice A n cap) n vs) (hn:n≤16) (hU:UVs m vs) :
  Gives Tryz.prog 96 #[.slice A n cap,.int .i64 (n:Int),.func (.func 48) #[] #[]] w fun _ w'=>w.grownBy w' (Value.slice A n cap).ownBlock∧ ∃vs',vs'.Perm vs∧OwnS w' 78 1 (.slice A n cap) n vs':=by
 refine gv (f:=96) ?_
 refine rnT ?_
 refine CW.loopS (fun _:Unit=> [(0,none,.slice A n cap),(1,none,.int .i64 (n:Int)),(2,none,.func (.func 48) #[] #[]),(6,none,.int .i64 20),(7,none,.int .i64 0),(8,none,.int .i64 20)])
  (fun _ W=>W=w) (fun _=>0) () [0,1,2,6,7,8] rfl rfl ?_
 rintro _ W rfl
 refine rnT ?_
 refine CW.condP rfl (fun hlt=> ?_) (fun hge=> ?_)
 ·exfalso
  omega
 refine rnT ?_
 refine TW.cl rfl (insertion_c hO hn hU) ?_
 rintro y1 w1 ⟨hg1,vs1,hp1,hO1⟩
 refine rnT ?_
 refine CW.pk [0,1,2,6,7,8] rfl ?_
 refine CW.loopS (fun _:Unit=> [(0,none,.slice A n cap),(1,none,.int .i64 (n:Int)),(2,none,.func (.func 48) #[] #[]),(6,none,.int .i64 20)])
  (fun _ W'=>W'=w1) (fun _=>0) () [0,1,2,6] rfl rfl ?_
 rintro _ W' rfl
 refine rnT ?_
 refine CW.condP rfl (fun hlt2=> ?_) (fun hge2=> ?_)
 ·exfalso
  omega
 refine rnT ?_
 refine end0 Tryz.results96 ⟨hg1,vs1,hp1,hO1⟩
theorem sortStable_c (hO:OwnS w 78 1 (.slice A n cap) n vs) (hn:n≤16) (hU:UVs m vs) :
  Gives Tryz.prog 47 #[.slice A n cap,.func (.func 48) #[] #[]] w fun _ w'=>w.grownBy w' (Value.slice A n cap).ownBlock∧ ∃vs',vs'.Perm vs∧OwnS w' 78 1 (.slice A n cap) n vs':=by
 refine gv (f:=47) ?_
 refine rnT ?_
 refine TW.cl rfl (stable_c hO hn hU) ?_
 rintro y1 w1 h1
 refine rnT ?_
 refine end0 Tryz.results47 (h1)
theorem perm_map_inv {α β:Type} {f:α→β}: ∀(l:List α) (l':List β),l'.Perm (l.map f)→ ∃m:List α,m.Perm l∧m.map f=l'
 | l,[],h=>by
  have:l= []:=by have:=h.length_eq; simp at this; exact List.eq_nil_of_length_eq_zero this.symm
  subst this
  exact ⟨[],List.Perm.refl _,rfl⟩
 | l,b::l',h=>by
  have hm:b∈l.map f:=h.mem_iff.1 (by simp)
  rw [List.mem_map] at hm
  obtain ⟨x,hx,rfl⟩:=hm
  obtain ⟨pre,post,rfl⟩:=List.append_of_mem hx
  have h4:l'.Perm ((pre++post).map f):=by
   have q:=(List.perm_middle (a:=x) (l₁:=pre) (l₂:=post)).map f
   exact List.Perm.cons_inv (a:=f x) (by simpa using h.trans q)
  obtain ⟨m,h5,h6⟩:=perm_map_inv (pre++post) l' h4
  exact ⟨x::m,(h5.cons x).trans List.perm_middle.symm,by simp [h6]⟩
def Prs (m:Nat) (ps:List (Value×U)):Prop:= ∀p∈ps,UV m p.1 p.2
theorem Prs.sl {ps:List (Value×U)} (h:Prs m ps) (hO:OwnS w 78 1 (.slice A n cap) n (ps.map (·.1))) (hn:n≤16) (hF: ∀g,(Value.slice A n cap).ownBlock=some g→F g):SL (uvT m) F w (.slice A n cap) (ps.map (·.2)):=by
 have hl:ps.length=n:=by simpa using hO.1
 obtain ⟨A',cap',hv,hc,_,hcell⟩:=hO.form
 simp only [Value.slice.injEq] at hv
 obtain ⟨rfl,_,rfl⟩:=hv
 refine ⟨A,cap,by simp [hl],by simp [hl]; exact hc,by simp; omega,fun i u hu=> ?_⟩
 have hi:i<ps.length:=by have:=(List.getElem?_eq_some_iff.1 hu).1; simpa using this
 have hpi:ps[i]?=some ps[i]:=List.getElem?_eq_getElem hi
 have hu':ps[i].2=u:=by simp [hpi] at hu; exact hu
 obtain ⟨g,hA,hown,hce,_⟩:=hcell i ps[i].1 (by simp [hpi])
 refine ⟨⟨g,0,none⟩,[ps[i].1],hA,hF g hown,fun j x hj=> ?_,ps[i].1,rfl,by rw [←hu']; exact h _ (List.getElem_mem hi)⟩
 have hj0:j=0:=by have:=(List.getElem?_eq_some_iff.1 hj).1; simp at this; exact this
 subst hj0
 simp at hj
 subst hj
 rw [add_add,addr0]
 have:i*(uvT m).n+0=i:=by show i*1+0=i; omega
 rw [this]
 exact hce
theorem split_c {u:Value} (hd:SD w dv d) (hl:SE w u l) (hok:WfE d l):Gives Tryz.prog 21 #[dv,u,.slice none 0 0] w fun x w'=>Below w.heap.size w w' ∧
  ((x= .tuple #[.slice none 0 0,.bool false]∧ ∃e∈l,highC e<lowC e)∨ ∃v us,x= .tuple #[v,.bool true]∧SL (uvT l.length) (fun k=>k<w'.heap.size) w' v us∧us.Perm (l.map uOf)∧ ∀e∈l,lowC e≤highC e):=by
 obtain ⟨A,cap,rfl,hcap⟩:=hd.form
 obtain ⟨B,lcap,rfl,hlcap⟩:=hl.form
 have h16:=hok.few
 refine gv (f:=21) ?_
 refine rnT ?_
 refine TW.makeSlice rfl rfl (zero1_of go92 ze4 rfl) rfl rfl (by omega) (by omega) ?_
 rintro g1 w1 f1
 refine rnT ?_
 refine CW.loopS (fun _:Unit=> [(0,none,.slice A d.length cap),(1,none,.slice B l.length lcap),(8,none,.slice none 0 0),(9,none,.slice (some ⟨g1,0,none⟩) l.length l.length),(22,none,.slice none 0 0),(23,none,.int .i64 ((0:Nat):Int)),(24,none,.int .i64 0)])
  (fun _ W=>W=w1) (fun _=>0) () [0,1,8,9,22,23,24] rfl rfl ?_
 rintro _ W rfl
 refine rnT ?_
 refine CW.condP rfl (fun hlt=> ?_) (fun hge=> ?_)
 ·exfalso
  omega
 refine rnT ?_
 refine CW.lp [9,78,79] (fun x:Nat×Value×List (Value×U)=> [(8,none,x.2.1),(80,none,.int .i64 (x.1:Int))])
  (fun x W'=>x.1≤l.length∧Below W.heap.size W W'∧OwnS W' 78 1 x.2.1 x.1 (x.2.2.map (·.1))∧(∀g,x.2.1.ownBlock=some g→W.heap.size≤g)∧Prs l.length x.2.2∧x.2.2.map (·.2)=(l.take x.1).map uOf) (fun x=>l.length-x.1) (0,.slice none 0 0,[]) ⟨Nat.zero_le _,Below.refl _ _,OwnS.nil _ _ _,(fun g h=>by simp [Value.ownBlock] at h),(fun p hp=>by cases hp),by simp⟩ ?_
 rintro ⟨k,uv,ps⟩ W' ⟨hk,hB,hO,hg,hps,hmap⟩
 dsimp only at hk hB hO hg hps hmap
 refine rnT ?_
 refine CW.condP rfl (fun hlt1=> ?_) (fun hge1=> ?_)
 ·have hkl:k<l.length:=by omega
  obtain ⟨e,he⟩: ∃e,l[k]?=some e:=⟨l[k],List.getElem?_eq_getElem hkl⟩
  have hlW:=se_step hl (f1.below.step hB)
  obtain ⟨ad,rfl⟩:=hlW.addr (by omega)
  obtain ⟨nv,hcells,i1,i2,i3,hneeds⟩:=SE.get hlW he
  obtain ⟨C,ncap,rfl,_⟩:=hneeds.form
  have heok:=hok.each e (List.mem_of_getElem? he)
  refine rnT ?_
  refine TW.ldS rfl (hcells) ?_
  refine TW.alloc rfl rfl zc39 ?_
  rintro g2 w2 f2
  refine rnT ?_
  refine TW.storeBlkF rfl rfl rfl f2.blk sz39 rfl rfl rfl ?_
  rintro w3 hB3 hg3 hsz3
  have hbel3:Below W.heap.size W w3:=(hB.step f2.below).grown hg3 (hB.step f2.below).size (fun q hq=>by cases hq; have:=f2.at_; have:=hB.size; omega)
  have hBk3:w3.cell? (Addr.add ⟨g1,0,none⟩ ((k:Int).toNat*1))=some (.bool false):=(f1.blk.next hbel3).fld (by simp [hkl])
  have hO3:OwnS w3 78 1 uv k (ps.map (·.1)):=(hO.below f2.below).kept fun q hq=>hg3.block q ((hO.below f2.below).lt hq) (fun e=>by cases e; have:=hO.lt hq; have:=f2.at_; omega)
  refine rnT ?_
  refine TW.ld rfl hBk3 ?_
  refine rnT ?_
  refine CW.pk [8,9,13,14,78,79,80,89] rfl ?_
  refine CW.cond rfl (fun hin=> ?_) (fun hout=> ?_)
  ·refine rnT ?_
   refine TW.ldS rfl (fun _ _ h=>hB3.fld h) ?_
   refine TW.build [0,1] [.tmp 91,.tmp 92] [.int .i64 (k:Int),.int .i64 e.office,.int .i64 e.low,.int .i64 e.high,.slice C e.needs.length ncap] rfl rfl rfl (Args.cons rfl ct (Args.cons rfl ct Args.nil)) (by kernel_rfl) ?_
   refine TW.v (V.makeIface rfl) rfl ⟨ct,trivial⟩ (fun _=>trivial) ?_
   refine TW.buildSlice 78 _ rfl rfl rfl eo65 (Args.cons rfl ct Args.nil) rfl rfl rfl rfl rfl ?_
   rintro g5 w5 f5
   have hO5:=hO3.below f5.below
   refine TW.append [.iface 116 (.agg #[.int .i64 (k:Int),.int .i64 e.office,.int .i64 e.low,.int .i64 e.high,.slice C e.needs.length ncap])] rfl rfl go65 rfl hO5 rfl rfl (fun j v hj=>⟨⟨g5,0,none⟩,rfl,f5.blk.fld hj⟩) (fun v hv=>by simp at hv; subst hv; rfl) (by omega) (by omega) ?_
   rintro uv' w6 hO6 hg6 hnew6
   refine rnT ?_
   have hbel5:=hbel3.step f5.below
   refine KW.rd (k+1,uv',ps++ [(.iface 116 (.agg #[.int .i64 (k:Int),.int .i64 e.office,.int .i64 e.low,.int .i64 e.high,.slice C e.needs.length ncap]),uOf e)]) ⟨by show k+1≤l.length; omega,hbel5.grown hg6 hbel5.size (fun q hq=>hg q hq),by rw [List.map_append]; exact hO6,fun q hq=> ?_,fun p hp=> ?_,?_⟩
   ·rcases hnew6 with h|h
    ·exact hg q (by rw [←h]; exact hq)
    ·rw [h] at hq; cases hq; exact hbel5.size
   ·rcases List.mem_append.1 hp with h|h
    ·exact hps p h
    ·rw [List.mem_singleton] at h
     subst h
     exact uv_single (by omega) (by omega) (by omega) heok.o1
   ·show List.map Prod.snd (ps++ [_])=(l.take (k+1)).map uOf
    rw [List.map_append,hmap,List.take_add_one,List.map_append,he]
    rfl
  ·exact absurd hout (by simp)
 ·have hke:k=l.length:=by omega
  subst hke
  have hps2:ps.map (·.2)=l.map uOf:=by rw [hmap,List.take_length]
  have hpl:ps.length=l.length:=by have:=congrArg List.length hps2; simpa using this
  obtain ⟨UA,ucap,rfl,hucap,_⟩:=hO.form
  refine rnT ?_
  refine CW.pk [8,9,78,79,80,98,99,100] rfl ?_
  refine CW.lp [8,98,99] (fun x:Nat=> [(100,none,.int .i64 (x:Int))])
   (fun x W2=>x≤l.length∧Below W'.heap.size W' W2∧ ∀(i:Nat) (e:Ev),i<x→l[i]?=some e→lowC e≤highC e) (fun x=>l.length-x) 0 ⟨Nat.zero_le _,Below.refl _ _,fun i e hi=>by omega⟩ ?_
  rintro k W2 ⟨hk2,hB2,hwin⟩
  have hO2:=hO.below hB2
  refine rnT ?_
  refine CW.condP rfl (fun hlt2=> ?_) (fun hge2=> ?_)
  ·have hkl:k<l.length:=by omega
   obtain ⟨gu,rfl⟩:=hO2.addr (by simp [hpl]; omega)
   obtain ⟨p,hp⟩: ∃p,ps[k]?=some p:=⟨ps[k]'(by omega),List.getElem?_eq_getElem (by omega)⟩
   have hpu:p.2=uOf l[k]:=by
    have:=congrArg (fun q=>q[k]?) hps2
    simp [hp,hkl] at this
    exact this
   have hc:W2.cell? (Addr.add ⟨gu,0,none⟩ ((k:Int).toNat*1))=some p.1:=hO2.cell1 (by simp [hp])
   obtain ⟨t,x,kw,ke,ks,kr,hpx,mw,me,ms,mr,cw,ce,cs,cr⟩:=hps p (List.mem_of_getElem? hp)
   rw [hpx] at hc
   refine rnT ?_
   refine TW.ld rfl hc ?_
   refine rnT ?_
   refine TW.invoke0 rfl rfl (mw) rfl Args.nil (cw _) ?_
   rintro y3 w3 ⟨hb3,rfl⟩
   refine rnT ?_
   refine CW.pk [8,16,17,18,98,99,100,111] rfl ?_
   refine CW.condP rfl (fun hbad=> ?_) (fun hgood=> ?_)
   ·refine rnT ?_
    refine rt2 rfl ⟨((f1.below.step hB).step hB2).step hb3,.inl ⟨rfl,l[k],List.getElem_mem hkl,?_⟩⟩
    rw [hpu] at hbad
    exact hbad
   ·refine rnT ?_
    refine KW.rd (k+1) ⟨by omega,hB2.step hb3,fun i e hi he=> ?_⟩
    rcases Nat.lt_or_ge i k with h|h
    ·exact hwin i e h he
    ·obtain rfl:i=k:=by omega
     rw [List.getElem?_eq_getElem hkl] at he
     cases he
     rw [hpu] at hgood
     have: ¬(lowC l[i]>highC l[i]):=hgood
     omega
  ·refine rnT ?_
   have hU:UVs l.length (ps.map (·.1)):=fun v hv=>by
    rw [List.mem_map] at hv
    obtain ⟨p,hp,rfl⟩:=hv
    exact ⟨p.2,hps p hp⟩
   refine TW.cl rfl (sortStable_c hO2 h16 hU) ?_
   rintro y4 w4 ⟨hg4,vs',hp4,hO4⟩
   refine rnT ?_
   obtain ⟨ps',hp5,rfl⟩:=perm_map_inv ps vs' hp4
   have hbel:Below w.heap.size w W2:=(f1.below.step hB).step hB2
   have hbel4:Below w.heap.size w w4:=hbel.grown hg4 hbel.size (fun q hq=>by have:=hg q hq; have:=f1.below.size; omega)
   refine rt2 rfl ⟨hbel4,.inr ⟨_,ps'.map (·.2),rfl,Prs.sl (fun p hp=>hps p (hp5.mem_iff.1 hp)) hO4 h16 (fun q hq=>hO4.lt hq),?_,fun e he=> ?_⟩⟩
   ·rw [←hps2]
    exact hp5.map _
   ·obtain ⟨i,hi,he'⟩:=List.getElem_of_mem he
    exact hwin i e (by omega) (by rw [List.getElem?_eq_getElem hi,he'])
theorem num_of (hd:WfD d) {e:Ev} (h:EOK d e):Num d (uOf e):=by
 refine ⟨uok_of hd h,?_,?_,(by decide:(0:Int)≤0∧(0:Int)≤1000000)⟩
 ·show 0≤lowC e∧lowC e≤1000001
  unfold lowC; omega
 ·show -1≤highC e∧highC e≤1000000
  unfold highC; omega
theorem Nums.less {b':Nat} {L:List Nat} (h:Nums w b v L) (hb:b'≤b):Nums w b' v L:=by
 obtain ⟨n,h1,h2,h3⟩:=h
 exact ⟨n,h1,h2,fun g hg=>Nat.le_trans hb (h3 g hg)⟩
def Fitted (d:Dist) (l:List Ev):Prop:=WfE d l∧Poss d l
theorem fit_c {ev:Value} (hd:SD w dv d) (hl:SE w ev l):Gives Tryz.prog 6 #[dv,ev,.slice none 0 0] w fun x w'=>Below w.heap.size w w'∧ ∃v,x= .tuple #[v,.bool (dec (Fitted d l))]:=by
 obtain ⟨A,cap,rfl,hcap⟩:=hd.form
 obtain ⟨B,lcap,rfl,hlcap⟩:=hl.form
 refine gv (f:=6) ?_
 refine rnT ?_
 refine TW.cl rfl (owell_c hd hl) ?_
 rintro y1 w1 ⟨hb1,rfl⟩
 refine rnT ?_
 refine CW.cond rfl (fun hbad=> ?_) (fun hgood=> ?_)
 ·refine rnT ?_
  refine rt2 rfl ⟨hb1,_,by rw [dec_neg (fun h=>ndec hbad h.1)]⟩
 have hok:WfE d l:=ndec' hgood
 have hwd:=hok.wd
 have h16:=hok.few
 have hm32:l.length%32=l.length:=Nat.mod_eq_of_lt (by omega)
 refine rnT ?_
 refine TW.cl rfl (split_c (sd_step hd hb1) (se_step hl hb1) hok) ?_
 rintro y2 w2 ⟨hb2,hsp⟩
 rcases hsp with ⟨rfl,e0,he0,hwin0⟩|⟨uv,us,rfl,hus,hperm,hwin⟩
 ·skip
  refine rnT ?_
  refine CW.pk [0,1,2,6,7,8,9,31] rfl ?_
  refine CW.cond rfl (fun h1=> ?_) (fun h2=> ?_)
  ·refine rnT ?_
   refine rt2 rfl ⟨hb1.step hb2,.slice none 0 0,?_⟩
   rw [dec_neg]
   intro h
   have:=((feas_iff hwd hok.each (List.Perm.refl _)).1 h.2).1 (uOf e0) (List.mem_map.2 ⟨e0,he0,rfl⟩)
   have:lowC e0≤highC e0:=this
   omega
  ·exact absurd h2 (by simp)
 have hlen:us.length=l.length:=by have:=hperm.length_eq; simpa using this
 have hu16:us.length≤16:=by omega
 have hnum: ∀u∈us,Num d u:=fun u hu=>by
  have:=hperm.mem_iff.1 hu
  rw [List.mem_map] at this
  obtain ⟨e,he,rfl⟩:=this
  exact num_of hwd (hok.each e he)
 have huok: ∀u∈us,UOK d u:=fun u hu=>(hnum u hu).ok
 have hposs:Poss d l↔Feas d (none,0) us:=by
  rw [feas_iff hwd hok.each hperm]
  refine ⟨fun h=>h.2,fun h=>⟨fun u hu=> ?_,h⟩⟩
  have:=hperm.mem_iff.1 hu
  rw [List.mem_map] at this
  obtain ⟨e,he,rfl⟩:=this
  exact hwin e he
 obtain ⟨UA,ucap,rfl,_⟩:=hus.form
 have hB2:=hb1.step hb2
 refine rnT ?_
 refine CW.cond rfl (fun h1=> ?_) (fun h2=> ?_)
 ·exact absurd h1 (by simp)
 refine rnT ?_
 refine TW.build [0,1] [.tmp 32,.tmp 33] [.slice A d.length cap,.slice UA us.length ucap,.slice none 0 0] rfl rfl rfl (Args.cons rfl ct (Args.cons rfl ct Args.nil)) (by kernel_rfl) ?_
 refine TW.box rfl rfl rfl rfl ?_
 rintro g w3 f3
 refine rnT ?_
 have hB3:=hB2.step f3.below
 have hgw:w.heap.size≤g:=by have:=f3.at_; have:=hB2.size; omega
 have hS:Srch w3 g l.length d us (.slice A d.length cap) (.slice UA us.length ucap) (.slice none 0 0):=by
  refine ⟨f3.blk,?_,?_⟩
  ·have:=((sd_step hd hB2).below f3.below)
   rw [f3.at_]; exact this
  ·have:=hus.below f3.below
   rw [f3.at_]; exact this
 refine TW.cl rfl (precede_c hwd hS hnum hu16) ?_
 rintro y4 w4 ⟨hb4,hpre⟩
 have hB4:Below w.heap.size w w4:=But.below hB3 hb4 hgw
 rcases hpre with ⟨rfl,i,j,u,v,hi,hj,hij,hn1,hn2⟩|⟨rfl,gf,F,hSF,hF,hF2⟩
 ·skip
  refine rnT ?_
  refine CW.pk [0,1,2,6,7,8,9,10,38] rfl ?_
  refine CW.cond rfl (fun h1=> ?_) (fun h3=> ?_)
  ·refine rnT ?_
   refine rt2 rfl ⟨hB4,.slice none 0 0,?_⟩
   rw [dec_neg]
   intro h
   rcases feas_pair hwd huok (s:=(none,0)) (fun x hx=>by cases hx) (hposs.1 h.2) hi hj hij with h'|h'
   ·exact hn1 h'
   ·exact hn2 h'
  ·exact absurd h3 (by simp)
 refine rnT ?_
 refine CW.cond rfl (fun h1=> ?_) (fun h3=> ?_)
 ·exact absurd h1 (by simp)
 refine rnT ?_
 refine TW.cl rfl (quick_c hwd hSF hnum hu16) ?_
 rintro y5 w5 ⟨hb5,hq⟩
 have hB5:=hB4.step hb5
 have hS5:=hSF.step hb5
 rcases hq with rfl|⟨sv,L,rfl,hL,hLi,T,hseq⟩
 ·skip
  refine rnT ?_
  refine CW.cond rfl (fun h4=> ?_) (fun h5=> ?_)
  ·refine rnT ?_
   refine TW.cl rfl (full_c hwd hS5 hnum hu16 hF hF2) ?_
   rintro y6 w6 ⟨hb6,hfu⟩
   have hB6:=hB5.step hb6
   have hS6:=hS5.step hb6
   rcases hfu with ⟨rfl,hno⟩|⟨sv,L,rfl,hL,hLi,T,hseq⟩
   ·skip
    refine rnT ?_
    refine CW.pk [0,1,2,6,7,8,9,10,11,52] rfl ?_
    refine CW.cond rfl (fun h6=> ?_) (fun h7=> ?_)
    ·refine rnT ?_
     refine rt2 rfl ⟨hB6,_,by rw [dec_neg (fun h=>hno (hposs.1 h.2))]⟩
    ·exact absurd h7 (by simp)
   ·skip
    refine rnT ?_
    refine CW.cond rfl (fun h6=> ?_) (fun h7=> ?_)
    ·exact absurd h6 (by simp)
    obtain ⟨SA,scap,rfl,_⟩:=hL.form
    have hSbig:=hL.big
    refine rnT ?_
    refine TW.makeSlice rfl rfl (zero1_of go37 ze3 rfl) rfl rfl (by omega) (by omega) ?_
    rintro g12 w7 f7
    refine rnT ?_
    refine TW.pk [0,1,2,6,7,8,9,10,11,12] rfl ?_
    refine TW.build [1] [.const (.int .i64 (-1))] [.int .u32 ((0:Nat):Int),.int .i64 (-1)] rfl rfl rfl (Args.cons rfl ct Args.nil) (by kernel_rfl) ?_
    refine TW.newVar rfl zc75 rfl sz75 rfl rfl ?_
    rintro g13 w8 f8
    refine rnT ?_
    have hg12:=f7.at_
    have hg13:=f8.at_
    have hw7:=f7.size
    have hBW8:Below w6.heap.size w6 w8:=f7.below.step f8.below
    refine CW.lp [1,8,10,12,13,57,58] (fun x:Nat×Nat×St=> [(14,none,.int .i64 x.2.2.2),(59,none,.int .i64 (x.1:Int))])
     (fun x W=>x.1≤L.length∧Below w6.heap.size w6 W∧Blk W g13 75 [.int .u32 (x.2.1:Int),.int .i64 (offI x.2.2.1)]∧(∃x,TimesX W g12 l.length x)∧SOK d x.2.2∧ -1≤x.2.2.2∧x.2.2.2≤3000000∧x.2.1<2 ^ 32) (fun x=>L.length-x.1) (0,0,(none,0)) ⟨Nat.zero_le _,hBW8,f8.blk,⟨0,List.replicate l.length 0,by simp; omega,by simpa using f7.blk.next f8.below,fun k hk=>absurd hk (by omega)⟩,(fun x hx=>by cases hx),by decide,by decide,(by decide:0<2 ^ 32)⟩ ?_
    rintro ⟨i,k,s⟩ W ⟨hi,hBW,hBs,hT,hso,ht0,ht1,hk⟩
    dsimp only at hi hBW hBs hT hso ht0 ht1 hk
    refine rnT ?_
    refine CW.condP rfl (fun hlt=> ?_) (fun hge=> ?_)
    ·have hil:i<L.length:=by omega
     obtain ⟨y,hy⟩: ∃y,L[i]?=some y:=⟨L[i],List.getElem?_eq_getElem hil⟩
     obtain ⟨gs,rfl,hcy⟩:=(hL.below hBW).get hy
     have hyl:=hLi y (List.mem_of_getElem? hy)
     obtain ⟨u,hu⟩: ∃u,us[y]?=some u:=⟨us[y],List.getElem?_eq_getElem hyl⟩
     have nu:=hnum u (List.mem_of_getElem? hu)
     have hSW:=hS6.step hBW
     have hbr:=begI_rng (s:=s) nu
     have hspn:=nu.span
     obtain ⟨ua,rfl⟩:=hSW.s.units.addr (by omega)
     refine rnT ?_
     refine TW.ld rfl hcy ?_
     refine rnT ?_
     refine TW.ldS rfl (fun _ _ h=>hBs.fld h) ?_
     refine rnT ?_
     refine TW.cl rfl (begin_c (k:=k) hwd hSW.s hu nu hso ⟨ht0,ht1⟩) ?_
     rintro y9 w9 ⟨hb9,rfl⟩
     have hT9: ∃x,TimesX w9 g12 l.length x:=by
      obtain ⟨x,xs,h1,h2,h3⟩:=hT
      exact ⟨x,xs,h1,h2.next hb9,h3⟩
     have hS9:=hSW.step hb9
     have hBs9:=hBs.next hb9
     obtain ⟨v1,hc1,hv1⟩:=uv_at hS9.s.units hu
     obtain ⟨tt,x,kw,ke,ks,kr,rfl,mw,me,ms,mr,cw,ce,cs,cr⟩:=hv1
     rw [hm32] at cr
     obtain ⟨xq,hT9⟩:=hT9
     refine rnT ?_
     refine TW.ld rfl hc1 ?_
     refine rnT ?_
     refine TW.invoke0 rfl rfl (mr) rfl (Args.cons rfl ct (Args.cons rfl ct Args.nil)) (cr _ _ _ _ (by omega) (by omega) hT9) ?_
     rintro y10 w10 ⟨hbut10,hT10⟩
     refine rnT ?_
     refine CW.pk [1,8,10,12,13,14,16,17,57,58,59] rfl ?_
     refine CW.drawPlus [4] 11 mixed (by kernel_rfl) (fun _ _ d _ _ h=>by cases d<;>exact h) fun W22 hb22=> ?_
     refine RW.draw .weak 10 (by kernel_rfl) (by kernel_rfl) rfl rfl hb22 ?_
     refine rnD ?_
     have hBW9:=hBW.step hb9
     have hBW10:Below w6.heap.size w6 w10:=hBW9.grown hbut10 hBW9.size (fun q hq=>by cases hq; omega)
     have hS10:=hS6.step hBW10
     have hBs10:=But.blk (k:=g13) hbut10 hBs9 (by omega)
     obtain ⟨v2,hc2,hv2⟩:=uv_at hS10.s.units hu
     obtain ⟨tt2,x2,kw2,ke2,ks2,kr2,rfl,mw2,me2,ms2,mr2,cw2,ce2,cs2,cr2⟩:=hv2
     refine DW.ldS rfl (fun _ _ h=>hBs10.fld h) ?_
     refine rnD ?_
     refine DW.cl (.ex (.agg #[.int .u32 ((k ||| 1 <<< y:Nat):Int),.int .i64 (u.exit:Int)])) trivial rfl (fun _ w' hb'=>after_c (k:=k) (hS10.step hb').s hu hk (by omega)) ?_
     refine rnD ?_
     refine DW.ld rfl hc2 ?_
     refine DW.invoke (.ex (.int .i64 u.span)) trivial rfl rfl (ms2) rfl ct DArgs.nil (fun _ w' _=>cs2 w') ?_
     refine DW.nil (DW.fin [1,8,10,12,13,14,16,17,57,58,59,78,79,84] [(1,_,_),(8,_,_),(10,_,_),(12,_,_),(13,_,_),(14,_,_),(16,_,_),(17,_,_),(57,_,_),(58,_,_),(59,_,_),(78,_,_),(79,_,_),(84,_,_)] rfl (fun w11 hb11=>KW.rk' ?_))
     refine RW.pure (by kernel_rfl) (by kernel_rfl) (fun _ _ d _ _ h=>by cases d<;>exact h) rfl rfl rfl (fun _ h=>by cases h) (fun a w ha=>X.add (ha.eval rfl trivial) (ha.eval rfl trivial) (by (try dsimp only); omega)) ?_
     refine RW.one (by kernel_rfl) (by kernel_rfl) rfl ?_
     have hBs11:=hBs10.next hb11
     refine TW.storeBlkF rfl rfl rfl hBs11 sz75 rfl rfl rfl ?_
     rintro w12 hBs12 hg12' hsz12
     refine TW.nil (KW.pick [1,8,10,12,13,14,16,17,57,58,59,85] [(1,_,_),(8,_,_),(10,_,_),(12,_,_),(13,_,_),(14,_,_),(16,_,_),(17,_,_),(57,_,_),(58,_,_),(59,_,_),(85,_,_)] rfl (KW.rk ?_))
     refine RW.one (by kernel_rfl) (by kernel_rfl) rfl ?_
     refine TW.v V.assign rfl ⟨ct,trivial⟩ (fun _=>trivial) ?_
     refine TW.nil (KW.pick [1,8,10,12,13,14,16,17,57,58,59] [(1,_,_),(8,_,_),(10,_,_),(12,_,_),(13,_,_),(14,_,_),(16,_,_),(17,_,_),(57,_,_),(58,_,_),(59,_,_)] rfl (KW.rk ?_))
     refine RW.end rfl (KW.pick [1,8,10,12,13,14,16,17,57,58,59] [(1,_,_),(8,_,_),(10,_,_),(12,_,_),(13,_,_),(14,_,_),(16,_,_),(17,_,_),(57,_,_),(58,_,_),(59,_,_)] rfl (KW.blockN (KW.then_ ?_)))
     refine rnT ?_
     have hBW11:=hBW10.step hb11
     have hp:(1 <<< y:Nat)<2 ^ 32:=by rw [Nat.one_shiftLeft]; exact Nat.pow_lt_pow_right (by decide) (by omega)
     refine KW.rd (i+1,k ||| 1 <<< y,(some u.exit,begI d s u+u.span)) ⟨by show i+1≤L.length; omega,hBW11.grown hg12' hBW11.size (fun q hq=>by cases hq; omega),hBs12,?_,?_,by show -1≤begI d s u+u.span; omega,by show begI d s u+u.span≤3000000; omega,Nat.or_lt_two_pow hk hp⟩
     ·obtain ⟨xs,h1,h2,h3⟩:=hT10
      exact ⟨_,xs,h1,But.blk (k:=g12) hg12' (h2.next hb11) (by omega),h3⟩
     ·intro x hx
      cases hx
      exact nu.ok.e2
    ·refine rnT ?_
     refine rt2 rfl ⟨hB6.step hBW,_,by rw [dec_pos ⟨hok,hposs.2 hseq.feas⟩]⟩
  ·exact absurd h5 (by simp)
 ·skip
  refine rnT ?_
  refine CW.cond rfl (fun h4=> ?_) (fun h5=> ?_)
  ·exact absurd h4 (by simp)
  ·refine rnT ?_
   refine CW.pk [0,1,2,6,7,8,9,10,11,52] rfl ?_
   refine CW.cond rfl (fun h6=> ?_) (fun h7=> ?_)
   ·exact absurd h6 (by simp)
   obtain ⟨SA,scap,rfl,_⟩:=hL.form
   have hSbig:=hL.big
   refine rnT ?_
   refine TW.makeSlice rfl rfl (zero1_of go37 ze3 rfl) rfl rfl (by omega) (by omega) ?_
   rintro g12 w7 f7
   refine rnT ?_
   refine TW.build [1] [.const (.int .i64 (-1))] [.int .u32 ((0:Nat):Int),.int .i64 (-1)] rfl rfl rfl (Args.cons rfl ct Args.nil) (by kernel_rfl) ?_
   refine TW.newVar rfl zc75 rfl sz75 rfl rfl ?_
   rintro g13 w8 f8
   refine rnT ?_
   have hg12:=f7.at_
   have hg13:=f8.at_
   have hw7:=f7.size
   have hBW8:Below w5.heap.size w5 w8:=f7.below.step f8.below
   refine CW.lp [1,8,10,12,13,57,58] (fun x:Nat×Nat×St=> [(14,none,.int .i64 x.2.2.2),(59,none,.int .i64 (x.1:Int))])
    (fun x W=>x.1≤L.length∧Below w5.heap.size w5 W∧Blk W g13 75 [.int .u32 (x.2.1:Int),.int .i64 (offI x.2.2.1)]∧(∃x,TimesX W g12 l.length x)∧SOK d x.2.2∧ -1≤x.2.2.2∧x.2.2.2≤3000000∧x.2.1<2 ^ 32) (fun x=>L.length-x.1) (0,0,(none,0)) ⟨Nat.zero_le _,hBW8,f8.blk,⟨0,List.replicate l.length 0,by simp; omega,by simpa using f7.blk.next f8.below,fun k hk=>absurd hk (by omega)⟩,(fun x hx=>by cases hx),by decide,by decide,(by decide:0<2 ^ 32)⟩ ?_
   rintro ⟨i,k,s⟩ W ⟨hi,hBW,hBs,hT,hso,ht0,ht1,hk⟩
   dsimp only at hi hBW hBs hT hso ht0 ht1 hk
   refine rnT ?_
   refine CW.condP rfl (fun hlt=> ?_) (fun hge=> ?_)
   ·have hil:i<L.length:=by omega
    obtain ⟨y,hy⟩: ∃y,L[i]?=some y:=⟨L[i],List.getElem?_eq_getElem hil⟩
    obtain ⟨gs,rfl,hcy⟩:=(hL.below hBW).get hy
    have hyl:=hLi y (List.mem_of_getElem? hy)
    obtain ⟨u,hu⟩: ∃u,us[y]?=some u:=⟨us[y],List.getElem?_eq_getElem hyl⟩
    have nu:=hnum u (List.mem_of_getElem? hu)
    have hSW:=hS5.step hBW
    have hbr:=begI_rng (s:=s) nu
    have hspn:=nu.span
    obtain ⟨ua,rfl⟩:=hSW.s.units.addr (by omega)
    refine rnT ?_
    refine TW.ld rfl hcy ?_
    refine rnT ?_
    refine TW.ldS rfl (fun _ _ h=>hBs.fld h) ?_
    refine rnT ?_
    refine TW.cl rfl (begin_c (k:=k) hwd hSW.s hu nu hso ⟨ht0,ht1⟩) ?_
    rintro y9 w9 ⟨hb9,rfl⟩
    have hT9: ∃x,TimesX w9 g12 l.length x:=by
     obtain ⟨x,xs,h1,h2,h3⟩:=hT
     exact ⟨x,xs,h1,h2.next hb9,h3⟩
    have hS9:=hSW.step hb9
    have hBs9:=hBs.next hb9
    obtain ⟨v1,hc1,hv1⟩:=uv_at hS9.s.units hu
    obtain ⟨tt,x,kw,ke,ks,kr,rfl,mw,me,ms,mr,cw,ce,cs,cr⟩:=hv1
    rw [hm32] at cr
    obtain ⟨xq,hT9⟩:=hT9
    refine rnT ?_
    refine TW.ld rfl hc1 ?_
    refine rnT ?_
    refine TW.invoke0 rfl rfl (mr) rfl (Args.cons rfl ct (Args.cons rfl ct Args.nil)) (cr _ _ _ _ (by omega) (by omega) hT9) ?_
    rintro y10 w10 ⟨hbut10,hT10⟩
    refine rnT ?_
    refine CW.pk [1,8,10,12,13,14,16,17,57,58,59] rfl ?_
    refine CW.drawPlus [4] 11 mixed (by kernel_rfl) (fun _ _ d _ _ h=>by cases d<;>exact h) fun W22 hb22=> ?_
    refine RW.draw .weak 10 (by kernel_rfl) (by kernel_rfl) rfl rfl hb22 ?_
    refine rnD ?_
    have hBW9:=hBW.step hb9
    have hBW10:Below w5.heap.size w5 w10:=hBW9.grown hbut10 hBW9.size (fun q hq=>by cases hq; omega)
    have hS10:=hS5.step hBW10
    have hBs10:=But.blk (k:=g13) hbut10 hBs9 (by omega)
    obtain ⟨v2,hc2,hv2⟩:=uv_at hS10.s.units hu
    obtain ⟨tt2,x2,kw2,ke2,ks2,kr2,rfl,mw2,me2,ms2,mr2,cw2,ce2,cs2,cr2⟩:=hv2
    refine DW.ldS rfl (fun _ _ h=>hBs10.fld h) ?_
    refine rnD ?_
    refine DW.cl (.ex (.agg #[.int .u32 ((k ||| 1 <<< y:Nat):Int),.int .i64 (u.exit:Int)])) trivial rfl (fun _ w' hb'=>after_c (k:=k) (hS10.step hb').s hu hk (by omega)) ?_
    refine rnD ?_
    refine DW.ld rfl hc2 ?_
    refine DW.invoke (.ex (.int .i64 u.span)) trivial rfl rfl (ms2) rfl ct DArgs.nil (fun _ w' _=>cs2 w') ?_
    refine DW.nil (DW.fin [1,8,10,12,13,14,16,17,57,58,59,78,79,84] [(1,_,_),(8,_,_),(10,_,_),(12,_,_),(13,_,_),(14,_,_),(16,_,_),(17,_,_),(57,_,_),(58,_,_),(59,_,_),(78,_,_),(79,_,_),(84,_,_)] rfl (fun w11 hb11=>KW.rk' ?_))
    refine RW.pure (by kernel_rfl) (by kernel_rfl) (fun _ _ d _ _ h=>by cases d<;>exact h) rfl rfl rfl (fun _ h=>by cases h) (fun a w ha=>X.add (ha.eval rfl trivial) (ha.eval rfl trivial) (by (try dsimp only); omega)) ?_
    refine RW.one (by kernel_rfl) (by kernel_rfl) rfl ?_
    have hBs11:=hBs10.next hb11
    refine TW.storeBlkF rfl rfl rfl hBs11 sz75 rfl rfl rfl ?_
    rintro w12 hBs12 hg12' hsz12
    refine TW.nil (KW.pick [1,8,10,12,13,14,16,17,57,58,59,85] [(1,_,_),(8,_,_),(10,_,_),(12,_,_),(13,_,_),(14,_,_),(16,_,_),(17,_,_),(57,_,_),(58,_,_),(59,_,_),(85,_,_)] rfl (KW.rk ?_))
    refine RW.one (by kernel_rfl) (by kernel_rfl) rfl ?_
    refine TW.v V.assign rfl ⟨ct,trivial⟩ (fun _=>trivial) ?_
    refine TW.nil (KW.pick [1,8,10,12,13,14,16,17,57,58,59] [(1,_,_),(8,_,_),(10,_,_),(12,_,_),(13,_,_),(14,_,_),(16,_,_),(17,_,_),(57,_,_),(58,_,_),(59,_,_)] rfl (KW.rk ?_))
    refine RW.end rfl (KW.pick [1,8,10,12,13,14,16,17,57,58,59] [(1,_,_),(8,_,_),(10,_,_),(12,_,_),(13,_,_),(14,_,_),(16,_,_),(17,_,_),(57,_,_),(58,_,_),(59,_,_)] rfl (KW.blockN (KW.then_ ?_)))
    refine rnT ?_
    have hBW11:=hBW10.step hb11
    have hp:(1 <<< y:Nat)<2 ^ 32:=by rw [Nat.one_shiftLeft]; exact Nat.pow_lt_pow_right (by decide) (by omega)
    refine KW.rd (i+1,k ||| 1 <<< y,(some u.exit,begI d s u+u.span)) ⟨by show i+1≤L.length; omega,hBW11.grown hg12' hBW11.size (fun q hq=>by cases hq; omega),hBs12,?_,?_,by show -1≤begI d s u+u.span; omega,by show begI d s u+u.span≤3000000; omega,Nat.or_lt_two_pow hk hp⟩
    ·obtain ⟨xs,h1,h2,h3⟩:=hT10
     exact ⟨_,xs,h1,But.blk (k:=g12) hg12' (h2.next hb11) (by omega),h3⟩
    ·intro x hx
     cases hx
     exact nu.ok.e2
   ·refine rnT ?_
    refine rt2 rfl ⟨hB5.step hBW,_,by rw [dec_pos ⟨hok,hposs.2 hseq.feas⟩]⟩
theorem indexI_c {l:List Int} {k:FuncId} {caps:List Value} {p:Int→Bool} (hl:SL intT F w v l) (hk:enters Tryz.prog k=true) (hp:PredI Tryz.prog w k caps p) :
  Gives Tryz.prog 124 #[v,.func (.func k) #[] caps.toArray] w fun x w'=>Below w.heap.size w w'∧((x= .int .i64 (-1)∧l.any p=false)∨ ∃i:Nat,x= .int .i64 (i:Int)∧l.any p=true):=by
 obtain ⟨A,cap,rfl,_⟩:=hl.form
 have hmax:l.length≤9223372036854775807:=hl.len.2.2
 refine gv (f:=124) ?_
 refine rnT ?_
 refine CW.lp [0,1,7] (fun i:Nat=> [(8,none,.int .i64 (i:Int))])
  (fun i W=>i≤l.length∧Below w.heap.size w W∧(l.take i).any p=false) (fun i=>l.length-i) 0 ⟨Nat.zero_le _,Below.refl _ _,rfl⟩ ?_
 rintro i W ⟨hi,hB,hno⟩
 refine rnT ?_
 refine CW.condP rfl (fun hlt=> ?_) (fun hge=> ?_)
 ·have hil:i<l.length:=by omega
  obtain ⟨ad,rfl⟩:=hl.addr (by omega)
  have hlW:=hl.below hB
  have hx:l[i]?=some l[i]:=List.getElem?_eq_getElem hil
  refine rnT ?_
  refine TW.ld rfl (hlW.getI hx) ?_
  refine TW.call0 rfl rfl hk rfl (Args.cons rfl ct Args.nil) (hp _ _ hB) ?_
  rintro y1 w1 ⟨hb1,rfl⟩
  refine rnT ?_
  refine CW.cond rfl (fun hyes=> ?_) (fun hnot=> ?_)
  ·refine rnT ?_
   refine rt1 rfl ⟨hB.step hb1,.inr ⟨i,rfl,?_⟩⟩
   rw [List.any_eq_true]
   exact ⟨l[i],List.getElem_mem hil,hyes⟩
  ·refine rnT ?_
   refine KW.rd (i+1) ⟨by omega,hB.step hb1,?_⟩
   rw [List.take_add_one,List.any_append,hno,hx]
   simp [hnot]
 ·refine rnT ?_
  refine rt1 rfl ⟨hB,.inl ⟨rfl,?_⟩⟩
  rw [show i=l.length by omega,List.take_length] at hno
  exact hno
theorem containsI_c {l:List Int} {k:FuncId} {caps:List Value} {p:Int→Bool} (hl:SL intT F w v l) (hk:enters Tryz.prog k=true) (hp:PredI Tryz.prog w k caps p) :
  Gives Tryz.prog 80 #[v,.func (.func k) #[] caps.toArray] w fun x w'=>Below w.heap.size w w'∧x= .bool (l.any p):=by
 refine gv (f:=80) ?_
 refine rnT ?_
 refine TW.cl rfl (indexI_c hl hk hp) ?_
 rintro y1 w1 ⟨hb1,h1⟩
 rcases h1 with ⟨rfl,h1⟩|⟨i,rfl,h1⟩
 ·skip
  refine rnT ?_
  refine rt1 rfl ⟨hb1,by rw [h1]; rfl⟩
 ·skip
  refine rnT ?_
  refine rt1 rfl ⟨hb1,by rw [h1]; simp⟩
theorem cloneI_c {l:List Int} (hl:SL intT F w v l) (hs:l.length≤1000000):Gives Tryz.prog 82 #[v] w fun x w'=>Below w.heap.size w w'∧SL intT (fun k=>w.heap.size≤k) w' x l∧ ∃A n c,x= .slice A n c:=by
 obtain ⟨A,cap,rfl,_⟩:=hl.form
 refine gv (f:=82) ?_
 refine rnT ?_
 refine CW.pk [0,2,4] rfl ?_
 refine CW.cond rfl (fun hnil=> ?_) (fun hsome=> ?_)
 ·refine rnT ?_
  have h0:l= []:=by
   cases l with
   | nil=>rfl
   | cons a l =>
    obtain ⟨ad,rfl⟩:=hl.addr (by simp)
    cases hnil
  subst h0
  refine rt1 rfl ⟨Below.refl _ _,SL.nil _ _ _,_,_,_,rfl⟩
 ·refine rnT ?_
  refine TW.buildSlice0 3 rfl rfl eo37 ?_
  rintro g w1 f1
  refine rnT ?_
  have hO:OwnS w1 3 1 (.slice (some ⟨g,0,none⟩) 0 0) 0 []:=OwnS.of_blk f1.blk rfl (by decide)
  have hl1:=hl.below f1.below
  refine TW.append (l.map (Value.int .i64)) rfl rfl go37 rfl hO rfl (by simp) ?_ (fun v hv=>by rw [List.mem_map] at hv; obtain ⟨x,_,rfl⟩:=hv; rfl) (by omega) (by omega) ?_
  ·intro j u hj
   have:=SL.cells (T:=intT) (fun x=> [Value.int .i64 x]) (fun F w cs x h=>h.1) (by decide) hl1 (fun x _=>rfl) j u (by rw [flat_int]; exact hj)
   exact this
  rintro v' w2 hO2 hg2 hn2
  refine rnT ?_
  obtain ⟨A2,c2,hv2,_⟩:=hO2.form
  have hb2:Below w.heap.size w w2:=f1.below.grown hg2 f1.below.size (fun q hq=>by simp [Value.ownBlock] at hq; have:=f1.at_; omega)
  refine rt1 rfl ⟨hb2,?_,A2,_,c2,hv2⟩
  refine OwnS.toInts (e:=3) (by simpa using hO2) (fun x hx=> ?_) (fun q hq=> ?_) (by omega)
  rotate_left
  ·rcases hn2 with h|h
   ·rw [h] at hq; simp [Value.ownBlock] at hq; have:=f1.at_; omega
   ·rw [h] at hq; cases hq; exact f1.below.size
  obtain ⟨i,hi,rfl⟩:=List.getElem_of_mem hx
  exact hl.rngI (List.getElem?_eq_getElem hi)
def gone (S:List Int) (e:Ev):Bool:=e.needs.any fun r=>S.contains r
def restS (l:List Ev) (S:List Int):List Ev:=l.filter fun e=> !gone S e
def intK:GKey Tryz.prog 3 Int:=nowKey (intKey Tryz.prog 3 .i64 Tryz.underlying3) (fun a b=>by simp [intKey])
def Drawn (w:World) (b:Nat) (S:List Int):Prop:= ∃m,MapL intK w b m∧(∀x,(∃v,(x,v)∈m)↔x∈S)∧ ∀p∈m,p.2= .bool true
theorem Drawn.step {w':World} (h:Drawn w b S) (hb:Below w.heap.size w w'):Drawn w' b S:=by
 obtain ⟨m,h1,h2⟩:=h
 exact ⟨m,h1.below hb,h2⟩
theorem rest11_c (hg:Blk w g 155 [.map (some b)]) (hD:Drawn w b S):PredI Tryz.prog w 81 [.pointer (some ⟨g,0,none⟩)] fun x=>S.contains x:=by
 intro x w1 hb1
 have hg1:=hg.next hb1
 obtain ⟨m,hm,hS,hT⟩:=hD.step hb1
 refine gv (f:=81) ?_
 refine rnT ?_
 refine TW.ld rfl (hg1.cell 0) ?_
 refine rnT ?_
 refine TW.lookup1 intK x rfl rfl Tryz.underlying155 ze4 rfl rfl hm ?_
 rintro v hv
 refine rnT ?_
 refine rt1 rfl ⟨Below.refl _ _,?_⟩
 rcases hv with hv|⟨hv,rfl⟩
 ·have hvt:v= .bool true:=hT _ hv
  rw [hvt]
  have:x∈S:=(hS x).1 ⟨v,hv⟩
  simp [this]
 ·have: ¬x∈S:=fun h=>by
   obtain ⟨v,hv'⟩:=(hS x).2 h
   exact hv _ hv' rfl
  simp [this]
theorem rest1_c {e:Ev} {nv:Value} (hg:Blk w g 155 [.map (some b)]) (hD:Drawn w b S) (hn:SL intT F w nv e.needs) :
  Gives Tryz.prog 79 #[.agg #[.int .i64 e.office,.int .i64 e.low,.int .i64 e.high,nv],.pointer (some ⟨g,0,none⟩)] w fun x w'=>Below w.heap.size w w'∧x= .bool (!gone S e):=by
 obtain ⟨A,cap,rfl,_⟩:=hn.form
 refine gv (f:=79) ?_
 refine rnT ?_
 refine TW.box rfl rfl rfl rfl ?_
 rintro g1 w1 f1
 refine rnT ?_
 refine TW.ld rfl (f1.blk.fld rfl) ?_
 refine TW.makeFunc rfl rfl (Args.cons rfl ct Args.nil) ?_
 refine TW.cl rfl (containsI_c (hn.below f1.below) en81 (rest11_c (hg.next f1.below) (hD.step f1.below))) ?_
 rintro y2 w2 ⟨hb2,rfl⟩
 refine rnT ?_
 refine rt1 rfl ⟨f1.below.step hb2,rfl⟩
theorem rest_c {u:Value} (hl:SE w v l) (hS:SL intT F w u S) (hsm:l.length≤1000000) (hne: ∀e∈l,e.needs.length≤1000000) :
  Gives Tryz.prog 36 #[v,u] w fun x w'=>Below w.heap.size w w'∧SE w' x (restS l S):=by
 obtain ⟨A,cap,rfl,_⟩:=hl.form
 obtain ⟨B,bcap,rfl,_⟩:=hS.form
 have hSmax:S.length≤9223372036854775807:=hS.len.2.2
 refine gv (f:=36) ?_
 refine rnT ?_
 refine TW.makeMapL intK rfl rfl ?_
 rintro b w1 hbw hw1 hb1 hM1
 refine TW.newVar1 rfl zc155 rfl sz155 rfl ?_
 rintro g w2 f2
 refine rnT ?_
 have hg2:=f2.at_
 refine CW.lp [0,5,13,14] (fun i:Nat=> [(15,none,.int .i64 (i:Int))])
  (fun i W=>i≤S.length∧But b w2 W∧Drawn W b (S.take i)) (fun i=>S.length-i) 0 ⟨Nat.zero_le _,But.of_below (Below.refl _ _),⟨[],hM1.below f2.below,fun x=>by simp,fun p hp=>by cases hp⟩⟩ ?_
 rintro i W ⟨hi,hbut,hD⟩
 have hbw2:Below w.heap.size w W:=But.below (hb1.step f2.below) hbut (by omega)
 have hBg:Blk W g 155 [.map (some b)]:=hbut.blk f2.blk (by omega)
 refine rnT ?_
 refine CW.condP rfl (fun hlt=> ?_) (fun hge=> ?_)
 ·have hil:i<S.length:=by omega
  have hSW:=hS.below hbw2
  obtain ⟨ad,rfl⟩:=hSW.addr (by omega)
  have hx:S[i]?=some S[i]:=List.getElem?_eq_getElem hil
  obtain ⟨m,hm,hmS,hmT⟩:=hD
  refine rnT ?_
  refine TW.ld rfl (hSW.getI hx) ?_
  refine rnT ?_
  refine TW.ld rfl (hBg.cell 0) ?_
  refine rnT ?_
  refine TW.mapUpdateL intK S[i] (vz:= .bool true) rfl Tryz.underlying155 rfl rfl rfl hm ?_
  rintro w3 hs3 hbut3 hM3
  refine rnT ?_
  refine KW.rd (i+1) ⟨by omega,hbut.trans hbut3,_,hM3,fun x=> ?_,fun p hp=> ?_⟩
  ·rw [List.take_add_one,hx]
   constructor
   ·rintro ⟨v,hv⟩
    rcases mem_lput.1 hv with h|⟨h,_⟩
    ·simp only [Prod.mk.injEq] at h; rw [h.1]; exact List.mem_append_right _ (by simp)
    ·exact List.mem_append_left _ ((hmS x).1 ⟨v,h⟩)
   ·intro h
    by_cases hxe:x=S[i]
    ·exact ⟨.bool true,mem_lput.2 (.inl (by rw [hxe]))⟩
    ·rcases List.mem_append.1 h with h|h
     ·obtain ⟨v,hv⟩:=(hmS x).2 h
      exact ⟨v,mem_lput.2 (.inr ⟨hv,hxe⟩)⟩
     ·simp at h
      exact absurd h hxe
  ·rcases mem_lput.1 hp with rfl|⟨h,_⟩
   ·rfl
   ·exact hmT p h
 have hD':Drawn W b S:=by
  rw [show i=S.length by omega,List.take_length] at hD
  exact hD
 refine rnT ?_
 refine TW.makeFunc rfl rfl (Args.cons rfl ct Args.nil) ?_
 refine rnT ?_
 refine CW.lp [8,23,24] (fun x:Nat×Value×List (List Value×Ev)=> [(9,none,x.2.1),(25,none,.int .i64 (x.1:Int))])
  (fun x W'=>x.1≤l.length∧Below W.heap.size W W'∧RowL evT W' 39 W.heap.size x.2.1 x.2.2∧x.2.2.map (·.2)=restS (l.take x.1) S) (fun x=>l.length-x.1) (0,.slice none 0 0,[]) ⟨Nat.zero_le _,Below.refl _ _,RowL.nil _ _ _ _,rfl⟩ ?_
 rintro ⟨k,rv,ps⟩ W' ⟨hk,hB,hR,hmap⟩
 dsimp only at hk hB hR hmap
 refine rnT ?_
 refine CW.condP rfl (fun hlt2=> ?_) (fun hge2=> ?_)
 ·have hkl:k<l.length:=by omega
  obtain ⟨e,he⟩: ∃e,l[k]?=some e:=⟨l[k],List.getElem?_eq_getElem hkl⟩
  have hem:=List.mem_of_getElem? he
  have hlW:=se_step hl (hbw2.step hB)
  obtain ⟨ad,rfl⟩:=hlW.addr (by omega)
  obtain ⟨nv,hcells,i1,i2,i3,hneeds⟩:=SE.get hlW he
  obtain ⟨C,ncap,rfl,_⟩:=hneeds.form
  have htk:restS (l.take (k+1)) S=restS (l.take k) S++if gone S e then [] else [e]:=by
   unfold restS
   rw [List.take_add_one,he,List.filter_append]
   cases hq:gone S e<;>simp [List.filter,hq]
  refine rnT ?_
  refine TW.ldS rfl (hcells) ?_
  refine TW.newVar rfl zc39 rfl sz39 rfl rfl ?_
  rintro g3 w3 f3
  refine rnT ?_
  have hB3:=hB.step f3.below
  refine TW.ldS rfl (fun _ _ h=>f3.blk.fld h) ?_
  refine TW.call0 rfl rfl en79 rfl (Args.cons rfl ct Args.nil) (rest1_c (hBg.next hB3) (hD'.step hB3) (hneeds.below f3.below)) ?_
  rintro y4 w4 ⟨hb4,rfl⟩
  have hB4:=hB3.step hb4
  have hBk4:=f3.blk.next hb4
  refine rnT ?_
  refine CW.pk [8,9,11,23,24,25,31] rfl ?_
  refine CW.cond rfl (fun hin=> ?_) (fun hout=> ?_)
  ·have hg0:gone S e=false:=by simpa using hin
   rw [hg0] at htk
   refine rnT ?_
   refine TW.ld rfl (hBk4.fld rfl) ?_
   refine TW.cl rfl (cloneI_c ((hneeds.below f3.below).below hb4) (hne e hem)) ?_
   rintro y5 w5 ⟨hb5,hn5,C5,n5,c5,rfl⟩
   have hBk5:=hBk4.next hb5
   refine rnT ?_
   refine TW.storeFld rfl sz37 rfl rfl hBk5 (by show 3<4; decide) rfl ?_
   rintro w6 hB6 hbut6 hsz6
   refine rnT ?_
   have hB5:=hB4.step hb5
   have hB6':Below W.heap.size W w6:=hB5.grown hbut6 hB5.size (fun q hq=>by cases hq; have:=f3.at_; have:=hB.size; omega)
   have hg3w:W'.heap.size≤g3:=Nat.le_of_eq f3.at_.symm
   refine TW.ldS rfl (fun _ _ h=>hB6.fld h) ?_
   refine TW.buildSlice 39 _ rfl rfl rfl eo31 (Args.cons rfl ct Args.nil) rfl rfl rfl rfl rfl ?_
   rintro g7 w7 f7
   have hW6:Below W'.heap.size W' w6:=by
    have h5:=(f3.below.step hb4).step hb5
    exact h5.grown hbut6 h5.size (fun q hq=>by cases hq; exact hg3w)
   have hR7:=(hR.step hW6).step f7.below
   have hrow: ∀q,rv.ownBlock=some q→q<W'.heap.size:=fun q hq=>hR.1.lt hq
   have hn7:SL intT (RowF w7 rv) w7 (.slice C5 n5 c5) e.needs:=by
    have h6:=SL.mono hn5 (w':=w6) (Kept.of_blocks fun k hk hlt=>hbut6.block k hlt (fun e=>by cases e; have:=f3.size; have:=hb4.size; omega))
    refine SL.wider (SL.nb intT_nb (h6.below f7.below)) (fun k hk=>⟨hk.2,fun e=> ?_⟩)
    have h1:=hrow k e
    have h2:=hk.1
    have:=f3.below.size
    have:=hb4.size
    omega
   have hfew:ps.length≤1000000:=by
    have h1:ps.length=(restS (l.take k) S).length:=by rw [←hmap]; simp
    have h2:(restS (l.take k) S).length≤(l.take k).length:=List.length_filter_le _ _
    have h3:(l.take k).length≤l.length:=by rw [List.length_take]; omega
    omega
   refine TW.append [.int .i64 e.office,.int .i64 e.low,.int .i64 e.high,.slice C5 n5 c5] rfl rfl go31 rfl hR7.1 rfl rfl (fun j v hj=>⟨⟨g7,0,none⟩,rfl,f7.blk.fld hj⟩) (fun v hv=>by simp at hv; rcases hv with rfl|rfl|rfl|rfl<;>rfl) (by omega) (by omega) ?_
   rintro rv' w8 hO8 hg8 hnew8
   refine rnT ?_
   have hW7:Below W'.heap.size W' w7:=hW6.step f7.below
   have hBW7:Below W.heap.size W w7:=hB6'.step f7.below
   have hown: ∀q,rv.ownBlock=some q→W.heap.size≤q:=hR.2.2
   have hR8:RowL evT w8 39 W.heap.size rv' (ps++ [([.int .i64 e.office,.int .i64 e.low,.int .i64 e.high,.slice C5 n5 c5],e)]):=hR7.app hO8 hg8 hnew8 ⟨_,rfl,i1,i2,i3,hn7⟩ hBW7.size
   refine KW.rd (k+1,rv',ps++ [([.int .i64 e.office,.int .i64 e.low,.int .i64 e.high,.slice C5 n5 c5],e)]) ⟨by show k+1≤l.length; omega,hBW7.grown hg8 hBW7.size hown,hR8,?_⟩
   show List.map Prod.snd (ps++ [_])=restS (l.take (k+1)) S
   rw [List.map_append,hmap,htk]
   simp
  ·have hg1:gone S e=true:=by simpa using hout
   rw [hg1] at htk
   refine rnT ?_
   refine KW.rd (k+1,rv,ps) ⟨by show k+1≤l.length; omega,hB4,(hR.step f3.below).step hb4,?_⟩
   show ps.map (·.2)=restS (l.take (k+1)) S
   rw [hmap,htk]
   simp
 ·refine rnT ?_
  have hke:k=l.length:=by omega
  subst hke
  refine rt1 rfl ⟨hbw2.step hB,?_⟩
  have:=hR.sl (by decide)
  rw [hmap,List.take_length] at this
  exact this
end Go.Proofs.YtffjgpoadfkjlaaGreatDoor
