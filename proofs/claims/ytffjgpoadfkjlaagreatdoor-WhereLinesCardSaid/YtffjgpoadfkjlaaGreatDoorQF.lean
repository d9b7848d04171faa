/- Texts of this claim,joined. -/
import Derived.Test.YtffjgpoadfkjlaaGreatDoorQE
set_option linter.unusedSimpArgs false
set_option linter.unusedVariables false
set_option maxRecDepth 100000
set_option maxHeartbeats 4000000
namespace Go.Proofs.YtffjgpoadfkjlaaGreatDoor
open Go.PF Go.RowKit Go.Ord
attribute [local irreducible] TW CW KW DW
variable {w:World} {m g n i c k:Nat} {d:Dist} {us:List U} {u:U} {e:Ev} {A:Option Addr} {dv uv fv:Value} {s:St}
theorem clamp_c:Gives Tryz.prog 187 #[.agg #[.int .i64 e.office,.int .i64 e.low,.int .i64 e.high,.slice A n c]] w fun x w'=>Below w.heap.size w w'∧x= .tuple #[.int .i64 (lowC e),.int .i64 (highC e)]:=by
 refine gv (f:=187) ?_
 refine rnT ?_
 refine TW.box rfl rfl rfl rfl ?_
 rintro g w1 f1
 refine rnT ?_
 refine CW.draw mixed (by kernel_rfl) ?_
 refine rnD ?_
 refine DW.ld rfl (f1.blk.fld rfl) ?_
 refine DW.v V.maxI rfl ⟨ct,ct,trivial⟩ (fun _=>trivial) ?_
 refine DW.v V.minI rfl ⟨ct,ct,trivial⟩ (fun _=>trivial) ?_
 refine rnD ?_
 refine DW.ld rfl (f1.blk.fld rfl) ?_
 refine DW.v V.minI rfl ⟨ct,ct,trivial⟩ (fun _=>trivial) ?_
 refine DW.v V.maxI rfl ⟨ct,ct,trivial⟩ (fun _=>trivial) ?_
 refine rnD ?_
 refine DW.fi [0,1,2,3] rfl fun w2 hb2=> ?_
 refine rnT ?_
 refine rt2 rfl ⟨f1.below.step hb2,rfl⟩
theorem m_window:Meth Tryz.prog "postilion/order.window" 116 190:=fun _ _ _=>by kernel_rfl
theorem m_ends:Meth Tryz.prog "postilion/order.ends" 116 188:=fun _ _ _=>by kernel_rfl
theorem m_span:Meth Tryz.prog "postilion/order.span" 116 189:=fun _ _ _=>by kernel_rfl
theorem m_write:Meth Tryz.prog "postilion/order.write" 116 191:=fun _ _ _=>by kernel_rfl
theorem window_c {i:Int}:Gives Tryz.prog 190 #[.agg #[.int .i64 i,.int .i64 e.office,.int .i64 e.low,.int .i64 e.high,.slice A n c]] w fun x w'=>Below w.heap.size w w'∧x= .tuple #[.int .i64 (lowC e),.int .i64 (highC e)]:=by
 refine gv (f:=190) ?_
 refine rnT ?_
 refine TW.box rfl rfl rfl rfl ?_
 rintro g w1 f1
 refine rnT ?_
 refine TW.ldS rfl (f1.blk.sub 1 [.int .i64 e.office,.int .i64 e.low,.int .i64 e.high,.slice A n c] rfl) ?_
 refine TW.cl rfl (clamp_c) ?_
 rintro v2 w2 ⟨hb2,rfl⟩
 refine rnT ?_
 refine rt2 rfl ⟨f1.below.step hb2,rfl⟩
theorem ends_c {i:Int}:Gives Tryz.prog 188 #[.agg #[.int .i64 i,.int .i64 e.office,.int .i64 e.low,.int .i64 e.high,.slice A n c]] w fun x w'=>Below w.heap.size w w'∧x= .tuple #[.int .i64 e.office,.int .i64 e.office]:=by
 refine gv (f:=188) ?_
 refine rnT ?_
 refine TW.box rfl rfl rfl rfl ?_
 rintro g w1 f1
 refine rnT ?_
 refine CW.draw mixed (by kernel_rfl) ?_
 refine rnD ?_
 have hc:w1.cell? ((Addr.add ⟨g,0,none⟩ 1).add 0)=some (.int .i64 e.office):=by rw [Addr.add_add]; exact f1.blk.fld rfl
 refine DW.ld rfl hc ?_
 refine rnD ?_
 refine DW.ld rfl hc ?_
 refine rnD ?_
 refine DW.fi [0,1,2,3] rfl fun w2 hb2=> ?_
 refine rnT ?_
 refine rt2 rfl ⟨f1.below.step hb2,rfl⟩
theorem span_c {i:Int}:Gives Tryz.prog 189 #[.agg #[.int .i64 i,.int .i64 e.office,.int .i64 e.low,.int .i64 e.high,.slice A n c]] w fun x w'=>Below w.heap.size w w'∧x= .int .i64 0:=by
 refine gv (f:=189) ?_
 refine rnT ?_
 refine TW.box rfl rfl rfl rfl ?_
 rintro g w1 f1
 refine rnT ?_
 refine rt1 rfl ⟨f1.below,rfl⟩
def Times (w:World) (g:Nat) (n:Nat):Prop:= ∃xs:List Int,xs.length=n∧Blk w g 3 (xs.map (Value.int .i64))
def TimesX (w:World) (g m:Nat) (x:Int):Prop:= ∃xs:List Int,xs.length=m%32∧Blk w g 3 (xs.map (Value.int .i64))∧ ∀k,m / 32=k+1→xs[k]?=some x
theorem write_c {t x:Int} (him:i<m%32) (hm:m%32≤16) (hne:i+1≠m / 32) (ht:TimesX w g m x):Gives Tryz.prog 191 #[.agg #[.int .i64 (i:Int),.int .i64 e.office,.int .i64 e.low,.int .i64 e.high,.slice A n c],.slice (some ⟨g,0,none⟩) (m%32) (m%32),.int .i64 t] w fun _ w'=>But g w w'∧TimesX w' g m x:=by
 obtain ⟨xs,hxl,hB,hX⟩:=ht
 generalize hq:m%32=q at him hm hxl ⊢
 refine gv (f:=191) ?_
 refine rnT ?_
 refine TW.box rfl rfl rfl rfl ?_
 rintro g1 w1 f1
 refine rnT ?_
 refine TW.ld rfl (f1.blk.fld rfl) ?_
 refine rnT ?_
 have hB1:=hB.next f1.below
 refine TW.storeFld rfl sz3 rfl rfl hB1 (by simp; omega) rfl ?_
 rintro w2 hB2 hbut hsz
 refine rnT ?_
 refine end0 Tryz.results191 ⟨(But.of_below f1.below).trans hbut,xs.set i t,by simp [hxl,hq],by simpa [List.map_set] using hB2,fun k hk=>by rw [List.getElem?_set_ne (by omega)]; exact hX k hk⟩
def UV (m:Nat) (v:Value) (u:U):Prop:= ∃t x kw ke ks kr,v= .iface t x∧Meth Tryz.prog "postilion/order.window" t kw∧Meth Tryz.prog "postilion/order.ends" t ke∧Meth Tryz.prog "postilion/order.span" t ks∧Meth Tryz.prog "postilion/order.write" t kr ∧
 (∀w,Gives Tryz.prog kw #[x] w fun y w'=>Below w.heap.size w w'∧y= .tuple #[.int .i64 u.low,.int .i64 u.high]) ∧
 (∀w,Gives Tryz.prog ke #[x] w fun y w'=>Below w.heap.size w w'∧y= .tuple #[.int .i64 (u.entry:Int),.int .i64 (u.exit:Int)]) ∧
 (∀w,Gives Tryz.prog ks #[x] w fun y w'=>Below w.heap.size w w'∧y= .int .i64 u.span) ∧
 (∀w g b x',-1≤b→b≤3000000→TimesX w g m x'→Gives Tryz.prog kr #[x,.slice (some ⟨g,0,none⟩) (m%32) (m%32),.int .i64 b] w fun _ w'=>But g w w'∧TimesX w' g m (if 0<u.span then b else x'))
def uvT (m:Nat):Ty U where
 n:=1
 rep:=fun _ _ cs u=> ∃v,cs= [v]∧UV m v u
 len:=fun _ _ _ _ h=>by obtain ⟨v,h,_⟩:=h; rw [h]; rfl
 mono:=fun _ _ _ _ _ _ h=>h
 wider:=fun _ _ _ _ _ _ h=>h
theorem uv_single (him:i<m%32) (hm:m%32≤16) (hne:i+1≠m / 32) (h0:0≤e.office):UV m (.iface 116 (.agg #[.int .i64 (i:Int),.int .i64 e.office,.int .i64 e.low,.int .i64 e.high,.slice A n c])) (uOf e):=by
 refine ⟨_,_,_,_,_,_,rfl,m_window,m_ends,m_span,m_write,fun w=>window_c,fun w=> ?_,fun w=>span_c,fun w g b x' _ _ ht=>by rw [show (if 0<(uOf e).span then b else x')=x' from if_neg (Int.lt_irrefl 0)]; exact write_c him hm hne ht⟩
 have h1:((e.office.toNat:Nat):Int)=e.office:=by omega
 have:=ends_c (w:=w) (i:=(i:Int)) (e:=e) (A:=A) (n:=n) (c:=c)
 show Gives _ _ _ _ fun y w'=>_∧y= .tuple #[.int .i64 ((e.office.toNat:Nat):Int),.int .i64 ((e.office.toNat:Nat):Int)]
 rw [h1]
 exact this
def u32T:Ty Nat where
 n:=1
 rep:=fun _ _ cs x=>cs= [.int .u32 (x:Int)]∧x<2 ^ 32
 len:=fun _ _ _ _ h=>by rw [h.1]; rfl
 mono:=fun _ _ _ _ _ _ h=>h
 wider:=fun _ _ _ _ _ _ h=>h
structure Srch (w:World) (g m:Nat) (d:Dist) (us:List U) (dv uv fv:Value):Prop where
 blk:Blk w g 71 [dv,uv,fv]
 dist:SL (sliceT intT) (fun k=>k<g) w dv d
 units:SL (uvT m) (fun k=>k<g) w uv us
theorem Srch.step {w':World} (h:Srch w g m d us dv uv fv) (hb:Below w.heap.size w w'):Srch w' g m d us dv uv fv :=
 ⟨h.blk.next hb,h.dist.below hb,h.units.below hb⟩
theorem uv_at {F:Nat→Prop} {ad:Addr} {cap:Nat} (h:SL (uvT m) F w (.slice (some ad) n cap) us) (hu:us[i]?=some u): ∃v,w.cell? (ad.add ((i:Int).toNat*1))=some v∧UV m v u:=by
 obtain ⟨ad',cs,h1,_,⟨v,rfl,hv⟩,hc⟩:=h.at hu
 cases h1
 refine ⟨v,?_,hv⟩
 have:=hc 0 v rfl
 rw [Addr.add_add,Nat.add_zero] at this
 exact this
def offI:Option Nat→Int
 | none=> -1
 | some x=>x
noncomputable def begI (d:Dist) (s:St) (u:U):Int:=if dec (CanB d s u) then beg d s u else -1
structure Num (d:Dist) (u:U):Prop where
 ok:UOK d u
 low:0≤u.low∧u.low≤1000001
 high: -1≤u.high∧u.high≤1000000
 span:0≤u.span∧u.span≤1000000
theorem begin_c (hwd:WfD d) (hS:Srch w g m d us dv uv fv) (hu:us[i]?=some u) (hn:Num d u) (hs:SOK d s) (ht: -1≤s.2∧s.2≤3000000) :
  Gives Tryz.prog 25 #[.pointer (some ⟨g,0,none⟩),.agg #[.int .u32 (k:Int),.int .i64 (offI s.1)],.int .i64 s.2,.int .i64 (i:Int)] w fun x w'=>Below w.heap.size w w'∧x= .int .i64 (begI d s u):=by
 obtain ⟨U1,ucap,rfl,_⟩:=hS.units.form
 obtain ⟨D1,dcap,rfl,_⟩:=hS.dist.form
 have hil:i<us.length:=(List.getElem?_eq_some_iff.1 hu).1
 obtain ⟨ua,rfl⟩:=hS.units.addr (by omega)
 refine gv (f:=25) ?_
 refine rnT ?_
 refine TW.box rfl rfl rfl rfl ?_
 rintro g1 w1 f1
 refine rnT ?_
 refine TW.v V.nilCheck rfl ⟨ct,trivial⟩ (fun _=>trivial) ?_
 refine rnT ?_
 have hS1:=hS.step f1.below
 obtain ⟨v1,hc1,hv1⟩:=uv_at hS1.units hu
 obtain ⟨t,x,kw,ke,ks,kr,rfl,mw,me,ms,mr,cw,ce,cs,cr⟩:=hv1
 refine TW.ld rfl (hS1.blk.fld rfl) ?_
 refine rnT ?_
 refine TW.ld rfl hc1 ?_
 refine TW.invoke0 rfl rfl (mw) rfl Args.nil (cw _) ?_
 rintro y2 w2 ⟨hb2,rfl⟩
 refine rnT ?_
 refine TW.v V.nilCheck rfl ⟨ct,trivial⟩ (fun _=>trivial) ?_
 refine rnT ?_
 have hS2:=hS1.step hb2
 obtain ⟨v2,hc2,hv2⟩:=uv_at hS2.units hu
 obtain ⟨t',x',kw',ke',ks',kr',rfl,mw',me',ms',mr',cw',ce',cs',cr'⟩:=hv2
 refine TW.ld rfl (hS2.blk.fld rfl) ?_
 refine rnT ?_
 refine TW.ld rfl hc2 ?_
 refine TW.invoke0 rfl rfl (me') rfl Args.nil (ce' _) ?_
 rintro y3 w3 ⟨hb3,rfl⟩
 refine rnT ?_
 have hS3:=hS2.step hb3
 have hB3:=(f1.blk.next hb2).next hb3
 have hBel:=(f1.below.step hb2).step hb3
 have q1:=hn.low
 have q2:=hn.high
 refine TW.ld rfl (hB3.fld rfl) ?_
 refine rnT ?_
 refine CW.pk [0,1,2,3,5,8,9,10,11,13,38] rfl ?_
 obtain ⟨o,T⟩:=s
 cases o with
 | none =>
  refine CW.condP rfl (fun hne=> ?_) (fun heq=> ?_)
  ·exact absurd rfl hne
  refine rnT ?_
  refine CW.cond rfl (fun hbad=> ?_) (fun hgood=> ?_)
  ·refine rnT ?_
   refine rt1 rfl ⟨hBel,?_⟩
   rw [begI,dec_neg]
   ·rfl
   ·rintro ⟨h1,h2⟩
    simp only [far] at h1 h2
    simp at hbad
    omega
  refine rnT ?_
  refine TW.v V.maxI rfl ⟨ct,ct,trivial⟩ (fun _=>trivial) ?_
  refine rnT ?_
  refine rt1 rfl ⟨hBel,?_⟩
  rw [begI,dec_pos]
  ·rfl
  ·simp at hgood
   exact ⟨by simp [far],by simp only [far]; omega⟩
 | some y =>
  have hy:y<d.length:=hs y rfl
  obtain ⟨da,rfl⟩:=hS.dist.addr (by omega)
  obtain ⟨rw1,hr⟩: ∃r,d[y]?=some r:=⟨d[y],List.getElem?_eq_getElem hy⟩
  obtain ⟨rv,hcell,hrow⟩:=hS3.dist.row hr
  obtain ⟨R1,rcap,rfl,_⟩:=hrow.form
  have hrl:rw1.length=d.length:=hwd.row y rw1 hr
  have he:=hn.ok.e1
  obtain ⟨ra,rfl⟩:=hrow.addr (by omega)
  obtain ⟨z,hz⟩: ∃z,rw1[u.entry]?=some z:=⟨rw1[u.entry]'(by omega),List.getElem?_eq_getElem (by omega)⟩
  have hza:=at2_eq hr hz
  have hzr:=hwd.rng y u.entry hy he
  rw [hza] at hzr
  refine CW.condP rfl (fun hne=> ?_) (fun heq=> ?_)
  ·refine CW.draw mixed (by kernel_rfl) ?_
   refine rnD ?_
   refine DW.v V.nilCheck rfl ⟨ct,trivial⟩ (fun _=>trivial) ?_
   refine rnD ?_
   refine DW.ld rfl (hS3.blk.fld rfl) ?_
   refine rnD ?_
   refine DW.ld rfl (hB3.fld rfl) ?_
   refine DW.v V.indexAddr rfl ⟨ct,ct,trivial⟩ (fun _=>by simp only [offI]; omega) ?_
   refine DW.ld rfl hcell ?_
   refine rnD ?_
   refine DW.ld rfl (hrow.getI hz) ?_
   refine rnD ?_
   refine DW.fi [0,1,2,3,5,8,9,10,11,13] rfl fun w4 hb4=> ?_
   refine rnT ?_
   refine CW.pk [0,1,2,3,5,8,9,10,11,13,58] rfl ?_
   refine CW.cond rfl (fun hbad=> ?_) (fun hgood=> ?_)
   ·refine rnT ?_
    refine rt1 rfl ⟨hBel.step hb4,?_⟩
    rw [begI,dec_neg]
    ·rfl
    ·rintro ⟨h1,h2⟩
     simp only [far,hza] at h1 h2
     simp at hbad
     omega
   refine rnT ?_
   refine TW.v V.maxI rfl ⟨ct,ct,trivial⟩ (fun _=>trivial) ?_
   refine rnT ?_
   refine rt1 rfl ⟨hBel.step hb4,?_⟩
   rw [begI,dec_pos]
   ·simp only [beg,far,hza,if_true]
   ·simp at hgood
    exact ⟨by simp only [far,hza]; omega,by simp only [far,hza]; omega⟩
  ·exfalso
   exact heq (by simp only [offI]; omega)
theorem after_c {o:Int} (hS:Srch w g m d us dv uv fv) (hu:us[i]?=some u) (hk:k<2 ^ 32) (hi:i<32) :
  Gives Tryz.prog 26 #[.pointer (some ⟨g,0,none⟩),.agg #[.int .u32 (k:Int),.int .i64 o],.int .i64 (i:Int)] w fun x w'=>Below w.heap.size w w'∧x= .agg #[.int .u32 ((k ||| 1 <<< i:Nat):Int),.int .i64 (u.exit:Int)]:=by
 obtain ⟨U1,ucap,rfl,_⟩:=hS.units.form
 have hil:i<us.length:=(List.getElem?_eq_some_iff.1 hu).1
 obtain ⟨ua,rfl⟩:=hS.units.addr (by omega)
 refine gv (f:=26) ?_
 refine rnT ?_
 refine TW.box rfl rfl rfl rfl ?_
 rintro g1 w1 f1
 refine TW.alloc rfl rfl zc75 ?_
 rintro g2 w2 f2
 refine rnT ?_
 refine TW.v V.nilCheck rfl ⟨ct,trivial⟩ (fun _=>trivial) ?_
 refine rnT ?_
 have hS2:=(hS.step f1.below).step f2.below
 obtain ⟨v1,hc1,hv1⟩:=uv_at hS2.units hu
 obtain ⟨t,x,kw,ke,ks,kr,rfl,mw,me,ms,mr,cw,ce,cs,cr⟩:=hv1
 refine TW.ld rfl (hS2.blk.fld rfl) ?_
 refine rnT ?_
 refine TW.ld rfl hc1 ?_
 refine TW.invoke0 rfl rfl (me) rfl Args.nil (ce _) ?_
 rintro y3 w3 ⟨hb3,rfl⟩
 refine rnT ?_
 refine CW.drawR mixed fun W4 hb4=> ?_
 refine RW.draw .weak 7 (by kernel_rfl) (by kernel_rfl) rfl rfl hb4 ?_
 refine rnD ?_
 have hB1:=(f1.blk.next f2.below).next hb3
 have hp:(1 <<< i:Nat)<2 ^ 32:=by rw [Nat.one_shiftLeft]; exact Nat.pow_lt_pow_right (by decide) hi
 refine DW.ld rfl (hB1.fld rfl) ?_
 refine DW.v V.move rfl ⟨ct,trivial⟩ (fun _=>trivial) ?_
 refine DW.v V.shl32 rfl ⟨ct,ct,trivial⟩ (fun _=>hi) ?_
 refine DW.v V.or32 rfl ⟨ct,ct,trivial⟩ (fun _=>⟨hk,hp⟩) ?_
 refine rnD ?_
 refine DW.build [0,1] [.tmp 24,.tmp 25] [.int .u32 ((k ||| 1 <<< i:Nat):Int),.int .i64 (u.exit:Int)] rfl rfl rfl rfl (DArgs.cons rfl ct (DArgs.cons rfl ct DArgs.nil)) (by kernel_rfl) ?_
 refine DW.nil (DW.fin [0,1,2,4,6,8,26] [(0,_,_),(1,_,_),(2,_,_),(4,_,_),(6,_,_),(8,_,_),(26,_,_)] rfl (fun w5 hb5=>KW.rk' ?_))
 refine RW.one (by kernel_rfl) (by kernel_rfl) rfl ?_
 have hB5:=(f2.blk.next hb3).next hb5
 refine TW.storeBlkF rfl rfl rfl hB5 sz75 rfl rfl rfl ?_
 rintro w6 hB6 hg6 hsz6
 refine TW.nil (KW.pick [0,1,2,4,6,8] [(0,_,_),(1,_,_),(2,_,_),(4,_,_),(6,_,_),(8,_,_)] rfl (KW.rk ?_))
 refine RW.end rfl (KW.pick [0,1,2,4,6,8] [(0,_,_),(1,_,_),(2,_,_),(4,_,_),(6,_,_),(8,_,_)] rfl (KW.then_ ?_))
 refine CW.ret ?_
 refine retCS Tryz.results26 Tryz.underlying75 (by exact sz75) rfl (hB6) (⟨?_,rfl⟩)
 have q0:=f1.below.step f2.below
 have q1:=(q0.step hb3).step hb5
 refine q1.trans ⟨hg6.os,hg6.tape,hg6.output,hg6.size,fun k hk=>hg6.block k ?_ ?_⟩
 ·have:=q1.size; omega
 ·intro h
  have:=f2.at_
  have:=f1.below.size
  simp only [Option.some.injEq] at h
  omega
theorem begI_nonneg (hn:Num d u):(0≤begI d s u)↔CanB d s u:=by
 unfold begI
 constructor
 ·intro h
  cases hd:dec (CanB d s u) with
  | true=>exact dec_iff.1 hd
  | false=>rw [hd] at h; simp at h
 ·intro h
  rw [dec_pos h,if_pos rfl]
  have:=hn.low
  unfold beg
  omega
theorem begI_rng (hn:Num d u): -1≤begI d s u∧begI d s u≤1000001:=by
 unfold begI
 have h1:=hn.low
 have h2:=hn.high
 cases hd:dec (CanB d s u) with
 | true =>
  have h:=dec_iff.1 hd
  have:=h.2
  rw [if_pos rfl]
  unfold beg
  omega
 | false=>simp
theorem fits_c {j:Nat} {v:U} (hwd:WfD d) (hS:Srch w g m d us dv uv fv) (hu:us[i]?=some u) (hv:us[j]?=some v) (hn:Num d u) (hn':Num d v) :
  Gives Tryz.prog 50 #[.pointer (some ⟨g,0,none⟩),.int .i64 (i:Int),.int .i64 (j:Int)] w fun x w'=>Below w.heap.size w w'∧x= .bool (dec (Fits d u v)):=by
 obtain ⟨U1,ucap,rfl,_⟩:=hS.units.form
 have hil:i<us.length:=(List.getElem?_eq_some_iff.1 hu).1
 obtain ⟨ua,rfl⟩:=hS.units.addr (by omega)
 have q1:=hn.low
 have q2:=hn.span
 obtain ⟨v1,hc1,hv1⟩:=uv_at hS.units hu
 obtain ⟨t,x,kw,ke,ks,kr,rfl,mw,me,ms,mr,cw,ce,cs,cr⟩:=hv1
 refine gv (f:=50) ?_
 refine rnT ?_
 refine TW.v V.nilCheck rfl ⟨ct,trivial⟩ (fun _=>trivial) ?_
 refine rnT ?_
 refine TW.ld rfl (hS.blk.fld rfl) ?_
 refine rnT ?_
 refine TW.ld rfl hc1 ?_
 refine TW.invoke0 rfl rfl (mw) rfl Args.nil (cw _) ?_
 rintro y1 w1 ⟨hb1,rfl⟩
 refine rnT ?_
 refine TW.v V.nilCheck rfl ⟨ct,trivial⟩ (fun _=>trivial) ?_
 refine rnT ?_
 have hS1:=hS.step hb1
 have hc1':=(hb1.cell (block_lt_of_cell hc1)).trans hc1
 refine TW.ld rfl (hS1.blk.fld rfl) ?_
 refine rnT ?_
 refine TW.ld rfl (hc1') ?_
 refine TW.invoke0 rfl rfl (me) rfl Args.nil (ce _) ?_
 rintro y2 w2 ⟨hb2,rfl⟩
 refine rnT ?_
 have hS2:=hS1.step hb2
 have hc2':=(hb2.cell (block_lt_of_cell hc1')).trans hc1'
 refine TW.build [1] [.tmp 34] [.int .u32 ((0:Nat):Int),.int .i64 (u.exit:Int)] rfl rfl rfl (Args.cons rfl ct Args.nil) (by kernel_rfl) ?_
 refine rnT ?_
 refine TW.v V.nilCheck rfl ⟨ct,trivial⟩ (fun _=>trivial) ?_
 refine rnT ?_
 refine TW.ld rfl (hS2.blk.fld rfl) ?_
 refine rnT ?_
 refine TW.ld rfl (hc2') ?_
 refine TW.invoke0 rfl rfl (ms) rfl Args.nil (cs _) ?_
 rintro y3 w3 ⟨hb3,rfl⟩
 refine rnT ?_
 have hso:SOK d (some u.exit,u.low+u.span):=fun y hy=>by
  cases hy
  exact hn.ok.e2
 refine TW.cl rfl (begin_c (s:=(some u.exit,u.low+u.span)) hwd (hS2.step hb3) hv hn' hso ⟨show -1≤u.low+u.span by omega,show u.low+u.span≤3000000 by omega⟩) ?_
 rintro y4 w4 ⟨hb4,rfl⟩
 refine rnT ?_
 refine rt1 rfl ⟨((hb1.step hb2).step hb3).step hb4,?_⟩
 rw [←dec_eq_decide,dec_congr (begI_nonneg hn')]
 rfl
theorem free_c (hwd:WfD d) (hS:Srch w g m d us dv uv fv) (hu:us[i]?=some u) (hn:Num d u) (hs:SOK d s) (ht:0≤s.2∧s.2≤3000000) :
  Gives Tryz.prog 98 #[.pointer (some ⟨g,0,none⟩),.agg #[.int .u32 (k:Int),.int .i64 (offI s.1)],.int .i64 s.2,.int .i64 (i:Int)] w fun x w'=>Below w.heap.size w w'∧x= .bool (dec (Free d s u)):=by
 obtain ⟨U1,ucap,rfl,_⟩:=hS.units.form
 have hil:i<us.length:=(List.getElem?_eq_some_iff.1 hu).1
 obtain ⟨ua,rfl⟩:=hS.units.addr (by omega)
 obtain ⟨v1,hc1,hv1⟩:=uv_at hS.units hu
 obtain ⟨t,x,kw,ke,ks,kr,rfl,mw,me,ms,mr,cw,ce,cs,cr⟩:=hv1
 refine gv (f:=98) ?_
 refine rnT ?_
 refine TW.box rfl rfl rfl rfl ?_
 rintro g1 w1 f1
 refine rnT ?_
 refine TW.v V.nilCheck rfl ⟨ct,trivial⟩ (fun _=>trivial) ?_
 refine rnT ?_
 have hS1:=hS.step f1.below
 have hc1':=(f1.below.cell (block_lt_of_cell hc1)).trans hc1
 refine TW.ld rfl (hS1.blk.fld rfl) ?_
 refine rnT ?_
 refine TW.ld rfl (hc1') ?_
 refine TW.invoke0 rfl rfl (me) rfl Args.nil (ce _) ?_
 rintro y2 w2 ⟨hb2,rfl⟩
 refine rnT ?_
 have hS2:=hS1.step hb2
 have hc2:=(hb2.cell (block_lt_of_cell hc1')).trans hc1'
 have hB2:=f1.blk.next hb2
 refine TW.ld rfl (hB2.fld rfl) ?_
 refine rnT ?_
 refine TW.ld rfl (hB2.fld rfl) ?_
 refine rnT ?_
 refine TW.v V.nilCheck rfl ⟨id,trivial⟩ (fun _=>trivial) ?_
 refine rnT ?_
 refine TW.ld rfl (hS2.blk.fld rfl) ?_
 refine rnT ?_
 refine TW.ld rfl hc2 ?_
 refine TW.invokeF rfl rfl (ms) rfl id Args.nil (fun _=>cs _) ?_
 rintro w3 hb3
 refine rnT ?_
 have hB3:=hB2.next hb3
 refine TW.ldS rfl (fun _ _ h=>hB3.fld h) ?_
 refine rnT ?_
 refine TW.callF (cap:= []) rfl rfl en25 rfl ct (Args.cons rfl id (Args.cons rfl id (Args.cons rfl id (Args.cons rfl id Args.nil)))) (fun _=>begin_c (k:=k) hwd (hS2.step hb3) hu hn hs ⟨by omega,ht.2⟩) ?_
 rintro w4 hb4
 refine rnT ?_
 refine rt1 rfl ⟨((f1.below.step hb2).step hb3).step hb4,?_⟩
 rw [show dec (Free d s u)=(decide ((u.entry:Int)=offI s.1)&&decide ((u.exit:Int)=offI s.1)&&decide (u.span=0)&&decide (begI d s u=s.2)) from ?_]
 cases hf:(decide ((u.entry:Int)=offI s.1)&&decide ((u.exit:Int)=offI s.1)&&decide (u.span=0)&&decide (begI d s u=s.2)) with
 | true =>
  simp only [Bool.and_eq_true,decide_eq_true_eq] at hf
  obtain ⟨⟨⟨h1,h2⟩,h3⟩,h4⟩:=hf
  have hcan:CanB d s u:=(begI_nonneg hn).1 (by omega)
  refine dec_pos ⟨?_,?_,h3,hcan,?_⟩
  ·cases ho:s.1 with
   | none=>rw [ho] at h1; simp only [offI] at h1; omega
   | some y=>rw [ho] at h1; simp only [offI] at h1; congr 1; omega
  ·omega
  ·unfold begI at h4
   rwa [dec_pos hcan,if_pos rfl] at h4
 | false =>
  refine dec_neg fun ⟨h1,h2,h3,h4,h5⟩=> ?_
  have hb:begI d s u=s.2:=by unfold begI; rw [dec_pos h4,if_pos rfl,h5]
  rw [h1] at hf
  simp [offI,h2,h3,hb] at hf
structure SrchF (w:World) (g m:Nat) (d:Dist) (us:List U) (dv uv:Value) (gf:Nat) (F:List Nat):Prop where
 s:Srch w g m d us dv uv (.slice (some ⟨gf,0,none⟩) F.length F.length)
 len:F.length=us.length
 fst:Blk w gf 73 (F.map fun x:Nat=>Value.int .u32 (x:Int))
 small: ∀x∈F,x<2 ^ 32
theorem SrchF.step {w w':World} {g m:Nat} {d:Dist} {us:List U} {dv uv:Value} {gf:Nat} {F:List Nat} (h:SrchF w g m d us dv uv gf F) (hb:Below w.heap.size w w'):SrchF w' g m d us dv uv gf F :=
 ⟨h.s.step hb,h.len,h.fst.next hb,h.small⟩
theorem kept_but {w':World} (h:But k w w') (hk:g≤k):Kept (fun b=>b<g) w w':=Kept.of_blocks fun b hb hlt=>h.block b hlt (fun e=>by cases e; omega)
def MaskOK (d:Dist) (us:List U) (F:List Nat) (P:Nat→Nat→Prop):Prop:= ∀(a:Nat) (u:U),us[a]?=some u→ ∀b,((F.getD a 0).testBit b=true↔P a b∧a≠b∧ ∃v,us[b]?=some v∧ ¬Fits d u v)
theorem MaskOK.congr {F:List Nat} {P P':Nat→Nat→Prop} (h:MaskOK d us F P) (hp: ∀(a b:Nat) (u v:U),us[a]?=some u→us[b]?=some v→a≠b→ ¬Fits d u v→(P a b↔P' a b)):MaskOK d us F P':=by
 intro a u hu b
 rw [h a u hu b]
 constructor
 ·rintro ⟨h1,h2,v,h3,h4⟩
  exact ⟨(hp a b u v hu h3 h2 h4).1 h1,h2,v,h3,h4⟩
 ·rintro ⟨h1,h2,v,h3,h4⟩
  exact ⟨(hp a b u v hu h3 h2 h4).2 h1,h2,v,h3,h4⟩
theorem MaskOK.set {d:Dist} {us:List U} {F:List Nat} {P:Nat→Nat→Prop} (h:MaskOK d us F P) (hl:F.length=us.length) {x y:Nat} {u v:U} (hx:us[x]?=some u) (hy:us[y]?=some v) (hxy:x≠y) (hf: ¬Fits d u v) :
  MaskOK d us (F.set x (F.getD x 0 ||| 1 <<< y)) fun a b=>P a b∨(a=x∧b=y):=by
 intro a u' hu b
 have hxl:x<F.length:=by rw [hl]; exact (List.getElem?_eq_some_iff.1 hx).1
 by_cases hax:a=x
 ·subst hax
  rw [hx] at hu; cases hu
  have e:(F.set a (F.getD a 0 ||| 1 <<< y)).getD a 0=F.getD a 0 ||| 1 <<< y:=by simp [List.getD_eq_getElem?_getD,hxl]
  rw [e,Nat.testBit_or,Nat.one_shiftLeft,Nat.testBit_two_pow,Bool.or_eq_true,h a u hx b,decide_eq_true_eq]
  constructor
  ·rintro (⟨h1,h2,h3⟩|rfl)
   ·exact ⟨.inl h1,h2,h3⟩
   ·exact ⟨.inr ⟨rfl,rfl⟩,hxy,v,hy,hf⟩
  ·rintro ⟨h1|⟨_,rfl⟩,h2,h3⟩
   ·exact .inl ⟨h1,h2,h3⟩
   ·exact .inr rfl
 ·have e:(F.set x (F.getD x 0 ||| 1 <<< y)).getD a 0=F.getD a 0:=by simp [List.getD_eq_getElem?_getD,List.getElem?_set_ne (Ne.symm hax)]
  rw [e,h a u' hu b]
  constructor
  ·rintro ⟨h1,h2⟩; exact ⟨.inl h1,h2⟩
  ·rintro ⟨h1|⟨h1,_⟩,h2⟩
   ·exact ⟨h1,h2⟩
   ·exact absurd h1 hax
def Seen (j i:Nat) (a b:Nat):Prop:=(a<j∧b<j)∨(b=j∧a<i)∨(a=j∧b<i)
theorem precede_c (hwd:WfD d) (hS:Srch w g m d us dv uv fv) (hn: ∀u∈us,Num d u) (h16:us.length≤16) :
  Gives Tryz.prog 22 #[.pointer (some ⟨g,0,none⟩)] w fun x w'=>But g w w'∧((x= .bool false∧ ∃(i j:Nat) (u v:U),us[i]?=some u∧us[j]?=some v∧i≠j∧ ¬Fits d u v∧ ¬Fits d v u)∨(x= .bool true∧ ∃gf F,SrchF w' g m d us dv uv gf F∧FirstOK d us (fun i=>F.getD i 0)∧ ∀i j,i<us.length→(F.getD i 0).testBit j=true→j<us.length)):=by
 obtain ⟨U1,ucap,rfl,_⟩:=hS.units.form
 refine gv (f:=22) ?_
 refine rnT ?_
 refine TW.v V.nilCheck rfl ⟨ct,trivial⟩ (fun _=>trivial) ?_
 refine rnT ?_
 refine TW.ld rfl (hS.blk.fld rfl) ?_
 refine rnT ?_
 refine TW.makeSlice rfl rfl (zero1_of go69 ze73 rfl) rfl rfl (by omega) (by omega) ?_
 rintro g1 w1 f1
 refine TW.v V.nilCheck rfl ⟨ct,trivial⟩ (fun _=>trivial) ?_
 refine rnT ?_
 have hB1:=hS.blk.next f1.below
 refine TW.storeFld rfl sz69 rfl rfl hB1 (by show 2<3; decide) rfl ?_
 rintro w2 hB2 hbut2 hsz2
 refine rnT ?_
 refine TW.v V.nilCheck rfl ⟨ct,trivial⟩ (fun _=>trivial) ?_
 refine rnT ?_
 have hgf:g≠g1:=fun e=>by have:=f1.at_; have:=hS.blk.lt; omega
 have hBut:But g w w2:=(But.of_below f1.below).trans hbut2
 have hgw:w.heap.size≤g1:=Nat.le_of_eq f1.at_.symm
 have hglt:=hS.blk.lt
 have hSF:SrchF w2 g m d us dv (.slice U1 us.length ucap) g1 (List.replicate us.length 0):=by
  refine ⟨⟨?_,(hS.dist.below f1.below).mono (kept_but hbut2 (Nat.le_refl _)),(hS.units.below f1.below).mono (kept_but hbut2 (Nat.le_refl _))⟩,by simp,?_,fun x hx=>by rw [List.eq_of_mem_replicate hx]; decide⟩
  ·simpa using hB2
  ·have:=hbut2.blk f1.blk (Ne.symm hgf)
   simpa using this
 have hM:MaskOK d us (List.replicate us.length 0) (Seen 0 0):=by
  intro a u hu b
  have hal:=(List.getElem?_eq_some_iff.1 hu).1
  have e:(List.replicate us.length 0).getD a 0=0:=by simp [List.getD_eq_getElem?_getD,List.getElem?_replicate,hal]
  rw [e,Nat.zero_testBit]
  constructor
  ·intro h
   cases h
  ·rintro ⟨h,_⟩
   unfold Seen at h
   omega
 refine TW.ld rfl (hSF.s.blk.fld rfl) ?_
 refine rnT ?_
 refine CW.pk [0,2,20,21] rfl ?_
 refine CW.lp [0,20] (fun jF:Nat×List Nat=> [(21,none,.int .i64 (jF.1:Int))])
  (fun jF W=>jF.1≤us.length∧But g w W∧SrchF W g m d us dv (.slice U1 us.length ucap) g1 jF.2∧MaskOK d us jF.2 (Seen jF.1 0)) (fun jF=>us.length-jF.1) (0,List.replicate us.length 0) ⟨Nat.zero_le _,hBut,hSF,hM⟩ ?_
 rintro ⟨j,F⟩ W ⟨hj,hBW,hFW,hMW⟩
 dsimp only at hj hBW hFW hMW
 refine rnT ?_
 refine CW.condP rfl (fun hlt=> ?_) (fun hge=> ?_)
 ·have hjl:j<us.length:=by omega
  obtain ⟨v,hv⟩: ∃v,us[j]?=some v:=⟨us[j],List.getElem?_eq_getElem hjl⟩
  refine rnT ?_
  refine CW.lp [0,3,20,21,24] (fun iF:Nat×List Nat=> [(25,none,.int .i64 (iF.1:Int))])
   (fun iF W=>iF.1≤j∧But g w W∧SrchF W g m d us dv (.slice U1 us.length ucap) g1 iF.2∧MaskOK d us iF.2 (Seen j iF.1)) (fun iF=>j-iF.1) (0,F) ⟨Nat.zero_le _,hBW,hFW,hMW⟩ ?_
  rintro ⟨i,F'⟩ W' ⟨hi,hBW',hFW',hMW'⟩
  dsimp only at hi hBW' hFW' hMW'
  refine rnT ?_
  refine CW.condP rfl (fun hlt2=> ?_) (fun hge2=> ?_)
  ·have hil:i<j:=by omega
   obtain ⟨u,hu⟩: ∃u,us[i]?=some u:=⟨us[i]'(by omega),List.getElem?_eq_getElem (by omega)⟩
   have nu:=hn u (List.mem_of_getElem? hu)
   have nv:=hn v (List.mem_of_getElem? hv)
   refine rnT ?_
   refine TW.cl rfl (fits_c hwd hFW'.s hu hv nu nv) ?_
   rintro y3 w3 ⟨hb3,rfl⟩
   refine rnT ?_
   refine TW.cl rfl (fits_c hwd (hFW'.s.step hb3) hv hu nv nu) ?_
   rintro y4 w4 ⟨hb4,rfl⟩
   have hF4:=(hFW'.step hb3).step hb4
   have hB4:=(hBW'.step hb3).step hb4
   refine rnT ?_
   refine CW.pk [0,3,4,5,6,20,21,24,25,36] rfl ?_
   refine CW.cond rfl (fun hnone=> ?_) (fun hsome=> ?_)
   ·refine rnT ?_
    refine rt1 rfl ⟨hB4,.inl ⟨rfl,i,j,u,v,hu,hv,by omega,?_,?_⟩⟩
    ·intro h
     simp [dec_pos h] at hnone
    ·intro h
     simp [dec_pos h] at hnone
   refine rnT ?_
   refine CW.cond rfl (fun hnf=> ?_) (fun hf=> ?_)
   ·skip
    have hnf1: ¬Fits d u v:=fun h=>by simp [dec_pos h] at hnf
    have hbk:Fits d v u:=by
     cases hq:dec (Fits d v u) with
     | true=>exact dec_iff.1 hq
     | false=>simp [hq,dec_neg hnf1] at hsome
    have hxl:i<F'.length:=by rw [hF4.len]; omega
    have hcF:w4.cell? (Addr.add ⟨g1,0,none⟩ ((i:Int).toNat*1))=some (.int .u32 ((F'.getD i 0:Nat):Int)):=hF4.fst.fld (by simp [List.getD_eq_getElem?_getD,hxl])
    have hsm:F'.getD i 0<2 ^ 32:=hF4.small _ (by rw [List.getD_eq_getElem?_getD,List.getElem?_eq_getElem hxl]; exact List.getElem_mem hxl)
    have hp:(1 <<< j:Nat)<2 ^ 32:=by rw [Nat.one_shiftLeft]; exact Nat.pow_lt_pow_right (by decide) (by omega)
    refine CW.drawR mixed fun W5 hb5=> ?_
    refine RW.draw .weak 11 (by kernel_rfl) (by kernel_rfl) rfl rfl hb5 ?_
    refine rnD ?_
    refine DW.v V.nilCheck rfl ⟨ct,trivial⟩ (fun _=>trivial) ?_
    refine rnD ?_
    refine DW.ld rfl (hF4.s.blk.fld rfl) ?_
    refine rnD ?_
    refine DW.ld rfl hcF ?_
    refine DW.v V.move rfl ⟨ct,trivial⟩ (fun _=>trivial) ?_
    refine DW.v V.shl32 rfl ⟨ct,ct,trivial⟩ (fun _=>by omega) ?_
    refine DW.v V.or32 rfl ⟨ct,ct,trivial⟩ (fun _=>⟨hsm,hp⟩) ?_
    refine rnD ?_
    refine DW.nil (DW.fin [0,3,4,5,6,20,21,24,25,55,56] [(0,_,_),(3,_,_),(4,_,_),(5,_,_),(6,_,_),(20,_,_),(21,_,_),(24,_,_),(25,_,_),(55,_,_),(56,_,_)] rfl (fun w6 hb6=>KW.rk' ?_))
    refine RW.one (by kernel_rfl) (by kernel_rfl) rfl ?_
    have hF6:=hF4.step hb6
    refine TW.storeFld rfl sz73 rfl rfl hF6.fst (by simp; omega) rfl ?_
    rintro w7 hB7 hbut7 hsz7
    refine TW.nil (KW.pick [0,3,4,5,6,20,21,24,25] [(0,_,_),(3,_,_),(4,_,_),(5,_,_),(6,_,_),(20,_,_),(21,_,_),(24,_,_),(25,_,_)] rfl (KW.rk ?_))
    refine RW.end rfl (KW.pick [0,3,4,5,6,20,21,24,25] [(0,_,_),(3,_,_),(4,_,_),(5,_,_),(6,_,_),(20,_,_),(21,_,_),(24,_,_),(25,_,_)] rfl (KW.blockN (KW.blockN (KW.then_ ?_))))
    refine rnT ?_
    have hF7:SrchF w7 g m d us dv (.slice U1 us.length ucap) g1 (F'.set i (F'.getD i 0 ||| 1 <<< j)):=by
     refine ⟨⟨?_,hF6.s.dist.mono (kept_but hbut7 (by omega)),hF6.s.units.mono (kept_but hbut7 (by omega))⟩,by simp [hF6.len],?_,fun z hz=> ?_⟩
     ·have:=hbut7.blk hF6.s.blk hgf
      simpa using this
     ·simpa [List.map_set] using hB7
     ·rcases List.mem_or_eq_of_mem_set hz with h|h
      ·exact hF6.small z h
      ·rw [h]; exact Nat.or_lt_two_pow hsm hp
    have hB7':But g w w7:=⟨hbut7.os.trans (hB4.step hb6).os,hbut7.tape.trans (hB4.step hb6).tape,hbut7.output.trans (hB4.step hb6).output,Nat.le_trans (hB4.step hb6).size hbut7.size,fun k hk hne=>(hbut7.block k (Nat.lt_of_lt_of_le hk (hB4.step hb6).size) (fun e=>by cases e; omega)).trans ((hB4.step hb6).block k hk hne)⟩
    refine KW.rd (i+1,F'.set i (F'.getD i 0 ||| 1 <<< j)) ⟨by show i+1≤j; omega,hB7',hF7,?_⟩
    refine (hMW'.set hF4.len hu hv (by omega) hnf1).congr fun a b u' v' ha hb hab hnf'=> ?_
    unfold Seen
    constructor
    ·rintro (h|⟨rfl,rfl⟩)
     ·dsimp only; omega
     ·dsimp only; omega
    ·intro h
     dsimp only at h
     by_cases hab':a=j∧b=i
     ·obtain ⟨rfl,rfl⟩:=hab'
      rw [hv] at ha; cases ha
      rw [hu] at hb; cases hb
      exact absurd hbk hnf'
     ·by_cases h2:a=i∧b=j
      ·exact .inr h2
      ·left; omega
   have hfo:Fits d u v:=by
    cases hq:dec (Fits d u v) with
    | true=>exact dec_iff.1 hq
    | false=>simp [hq] at hf
   refine rnT ?_
   refine CW.cond rfl (fun hnb=> ?_) (fun hbb=> ?_)
   ·skip
    have hnb1: ¬Fits d v u:=fun h=>by simp [dec_pos h] at hnb
    have hxl:j<F'.length:=by rw [hF4.len]; omega
    have hcF:w4.cell? (Addr.add ⟨g1,0,none⟩ ((j:Int).toNat*1))=some (.int .u32 ((F'.getD j 0:Nat):Int)):=hF4.fst.fld (by simp [List.getD_eq_getElem?_getD,hxl])
    have hsm:F'.getD j 0<2 ^ 32:=hF4.small _ (by rw [List.getD_eq_getElem?_getD,List.getElem?_eq_getElem hxl]; exact List.getElem_mem hxl)
    have hp:(1 <<< i:Nat)<2 ^ 32:=by rw [Nat.one_shiftLeft]; exact Nat.pow_lt_pow_right (by decide) (by omega)
    refine CW.drawR mixed fun W5 hb5=> ?_
    refine RW.draw .weak 11 (by kernel_rfl) (by kernel_rfl) rfl rfl hb5 ?_
    refine rnD ?_
    refine DW.v V.nilCheck rfl ⟨ct,trivial⟩ (fun _=>trivial) ?_
    refine rnD ?_
    refine DW.ld rfl (hF4.s.blk.fld rfl) ?_
    refine rnD ?_
    refine DW.ld rfl hcF ?_
    refine DW.v V.move rfl ⟨ct,trivial⟩ (fun _=>trivial) ?_
    refine DW.v V.shl32 rfl ⟨ct,ct,trivial⟩ (fun _=>by omega) ?_
    refine DW.v V.or32 rfl ⟨ct,ct,trivial⟩ (fun _=>⟨hsm,hp⟩) ?_
    refine rnD ?_
    refine DW.nil (DW.fin [0,3,4,5,6,20,21,24,25,69,70] [(0,_,_),(3,_,_),(4,_,_),(5,_,_),(6,_,_),(20,_,_),(21,_,_),(24,_,_),(25,_,_),(69,_,_),(70,_,_)] rfl (fun w6 hb6=>KW.rk' ?_))
    refine RW.one (by kernel_rfl) (by kernel_rfl) rfl ?_
    have hF6:=hF4.step hb6
    refine TW.storeFld rfl sz73 rfl rfl hF6.fst (by simp; omega) rfl ?_
    rintro w7 hB7 hbut7 hsz7
    refine TW.nil (KW.pick [0,3,4,5,6,20,21,24,25] [(0,_,_),(3,_,_),(4,_,_),(5,_,_),(6,_,_),(20,_,_),(21,_,_),(24,_,_),(25,_,_)] rfl (KW.rk ?_))
    refine RW.end rfl (KW.pick [0,3,4,5,6,20,21,24,25] [(0,_,_),(3,_,_),(4,_,_),(5,_,_),(6,_,_),(20,_,_),(21,_,_),(24,_,_),(25,_,_)] rfl (KW.blockN (KW.blockN (KW.then_ ?_))))
    refine rnT ?_
    have hF7:SrchF w7 g m d us dv (.slice U1 us.length ucap) g1 (F'.set j (F'.getD j 0 ||| 1 <<< i)):=by
     refine ⟨⟨?_,hF6.s.dist.mono (kept_but hbut7 (by omega)),hF6.s.units.mono (kept_but hbut7 (by omega))⟩,by simp [hF6.len],?_,fun z hz=> ?_⟩
     ·have:=hbut7.blk hF6.s.blk hgf
      simpa using this
     ·simpa [List.map_set] using hB7
     ·rcases List.mem_or_eq_of_mem_set hz with h|h
      ·exact hF6.small z h
      ·rw [h]; exact Nat.or_lt_two_pow hsm hp
    have hB7':But g w w7:=⟨hbut7.os.trans (hB4.step hb6).os,hbut7.tape.trans (hB4.step hb6).tape,hbut7.output.trans (hB4.step hb6).output,Nat.le_trans (hB4.step hb6).size hbut7.size,fun k hk hne=>(hbut7.block k (Nat.lt_of_lt_of_le hk (hB4.step hb6).size) (fun e=>by cases e; omega)).trans ((hB4.step hb6).block k hk hne)⟩
    refine KW.rd (i+1,F'.set j (F'.getD j 0 ||| 1 <<< i)) ⟨by show i+1≤j; omega,hB7',hF7,?_⟩
    refine (hMW'.set hF4.len hv hu (by omega) hnb1).congr fun a b u' v' ha hb hab hnf'=> ?_
    unfold Seen
    constructor
    ·rintro (h|⟨rfl,rfl⟩)
     ·dsimp only; omega
     ·dsimp only; omega
    ·intro h
     dsimp only at h
     by_cases hab':a=i∧b=j
     ·obtain ⟨rfl,rfl⟩:=hab'
      rw [hu] at ha; cases ha
      rw [hv] at hb; cases hb
      exact absurd hfo hnf'
     ·by_cases h2:a=j∧b=i
      ·exact .inr h2
      ·left; omega
   have hbk:Fits d v u:=by
    cases hq:dec (Fits d v u) with
    | true=>exact dec_iff.1 hq
    | false=>simp [hq] at hbb
   refine rnT ?_
   refine KW.rd (i+1,F') ⟨by show i+1≤j; omega,hB4,hF4,?_⟩
   refine hMW'.congr fun a b u' v' ha hb hab hnf'=> ?_
   unfold Seen
   constructor
   ·intro h; dsimp only; omega
   ·intro h
    dsimp only at h
    by_cases h1:a=i∧b=j
    ·obtain ⟨rfl,rfl⟩:=h1
     rw [hu] at ha; cases ha
     rw [hv] at hb; cases hb
     exact absurd hfo hnf'
    ·by_cases h2:a=j∧b=i
     ·obtain ⟨rfl,rfl⟩:=h2
      rw [hv] at ha; cases ha
      rw [hu] at hb; cases hb
      exact absurd hbk hnf'
     ·omega
  ·refine rnT ?_
   refine KW.rd (j+1,F') ⟨by show j+1≤us.length; omega,hBW',hFW',?_⟩
   refine hMW'.congr fun a b u' v' ha hb hab hnf'=> ?_
   unfold Seen
   dsimp only
   omega
 ·refine rnT ?_
  refine rt1 rfl (⟨hBW,.inr ⟨rfl,g1,F,hFW,fun i j u v hi hj=> ?_,fun i j hi hb=>by obtain ⟨_,_,v,hv,_⟩:=(hMW i us[i] (List.getElem?_eq_getElem hi) j).1 hb; exact (List.getElem?_eq_some_iff.1 hv).1⟩⟩)
  rw [hMW i u hi j]
  have h1:=(List.getElem?_eq_some_iff.1 hi).1
  have h2:=(List.getElem?_eq_some_iff.1 hj).1
  constructor
  ·rintro ⟨_,q1,v',q2,q3⟩
   rw [hj] at q2; cases q2
   exact ⟨q1,q3⟩
  ·rintro ⟨q1,q2⟩
   exact ⟨.inl ⟨by omega,by omega⟩,q1,v,hj,q2⟩
end Go.Proofs.YtffjgpoadfkjlaaGreatDoor
namespace Go.Ord
open Go.PF
variable {d:Dist}
def lstTo (F:List Nat) (k c:Nat):List Nat:=(List.range c).filter fun i=> !k.testBit i&&decide (andN (F.getD i 0) k=0)
noncomputable def freeAt (d:Dist) (us:List U) (s:St) (i:Nat):Bool:=dec (∃u,us[i]?=some u∧Free d s u)
noncomputable def choOf (d:Dist) (us:List U) (s:St) (l:List Nat):List Nat:=match l.find? (freeAt d us s) with
 | some i=> [i]
 | none=>l
def Cho (d:Dist) (us:List U) (F:List Nat) (k:Nat) (s:St) (L:List Nat):Prop :=
 ((∃(i:Nat) (u:U),us[i]?=some u∧k.testBit i=false∧ ¬CanB d s u)∧L= []) ∨
 ((∀(i:Nat) (u:U),us[i]?=some u→k.testBit i=false→CanB d s u)∧L=choOf d us s (lstTo F k us.length))
theorem lstTo_succ (F:List Nat) (k c:Nat):lstTo F k (c+1)=lstTo F k c++if (!k.testBit c&&decide (andN (F.getD c 0) k=0))=true then [c] else []:=by
 unfold lstTo
 rw [List.range_succ,List.filter_append]
 congr 1
 by_cases h:(!k.testBit c&&decide (andN (F.getD c 0) k=0))=true
 ·rw [if_pos h]
  simp only [List.filter,h]
 ·rw [if_neg h]
  have h':(!k.testBit c&&decide (andN (F.getD c 0) k=0))=false:=by simpa using h
  simp only [List.filter,h']
theorem mem_lstTo {F:List Nat} {k c i:Nat}:i∈lstTo F k c↔i<c∧k.testBit i=false∧andN (F.getD i 0) k=0:=by
 unfold lstTo
 rw [List.mem_filter,List.mem_range]
 simp
theorem Cho.mem {us:List U} {F:List Nat} {k:Nat} {s:St} {L:List Nat} (h:Cho d us F k s L) {i:Nat} (hi:i∈L): ∃u,us[i]?=some u∧k.testBit i=false∧CanB d s u:=by
 rcases h with ⟨_,rfl⟩|⟨hc,rfl⟩
 ·cases hi
 ·have hm:i∈lstTo F k us.length:=by
   unfold choOf at hi
   split at hi
   ·rename_i y hy
    rw [List.mem_singleton] at hi
    subst hi
    exact List.mem_of_find?_eq_some hy
   ·exact hi
  obtain ⟨h1,h2,_⟩:=mem_lstTo.1 hm
  exact ⟨us[i],List.getElem?_eq_getElem h1,h2,hc i _ (List.getElem?_eq_getElem h1) h2⟩
def Way (d:Dist) (us:List U) (k:Nat) (s:St) (c:Nat):Prop:= ∃T:List U,T.length=c∧Run d (none,0) T∧fin d (none,0) T=s∧(T++left us k).Perm us
theorem Way.zero (us:List U):Way d us 0 (none,0) 0:=⟨[],rfl,trivial,rfl,by rw [left_zero]; exact List.Perm.refl _⟩
theorem Way.step {us:List U} {k c i:Nat} {s:St} {u:U} (h:Way d us k s c) (hu:us[i]?=some u) (hk:k.testBit i=false) (hc:CanB d s u):Way d us (k ||| 1 <<< i) (nxt d s u) (c+1):=by
 obtain ⟨T,h1,h2,h3,h4⟩:=h
 refine ⟨T++ [u],by simp [h1],?_,?_,?_⟩
 ·rw [Run.append,h3]; exact ⟨h2,hc,trivial⟩
 ·rw [fin_append,h3]; rfl
 ·rw [List.append_assoc]
  exact (List.Perm.append_left T (left_cons hk hu).symm).trans h4
theorem Way.feas {us:List U} {k:Nat} {s:St} (h:Way d us k s us.length):Feas d (none,0) us:=by
 obtain ⟨T,h1,h2,h3,h4⟩:=h
 have hl:=h4.length_eq
 rw [List.length_append,h1] at hl
 have h0:left us k= []:=List.eq_nil_of_length_eq_zero (by omega)
 rw [h0,List.append_nil] at h4
 exact ⟨T,h4,h2⟩
theorem Way.sok {us:List U} {k c:Nat} {s:St} (hu: ∀u∈us,UOK d u) (h:Way d us k s c):SOK d s:=by
 obtain ⟨T,h1,h2,h3,h4⟩:=h
 rw [←h3]
 refine sok_fin (fun x hx=>by cases hx) fun u hT=>hu u (h4.mem_iff.1 (List.mem_append_left _ hT))
end Go.Ord
namespace Go.Proofs.YtffjgpoadfkjlaaGreatDoor
open Go.PF Go.RowKit Go.Ord
attribute [local irreducible] TW CW KW DW
def Nums (w:World) (b:Nat) (v:Value) (L:List Nat):Prop:= ∃n,n=L.length∧OwnS w 3 1 v n (L.map fun i:Nat=>Value.int .i64 (i:Int))∧ ∀g,v.ownBlock=some g→b≤g
theorem Nums.below {w w':World} {b:Nat} {v:Value} {L:List Nat} (h:Nums w b v L) (hb:Below w.heap.size w w'):Nums w' b v L:=by
 obtain ⟨n,h1,h2,h3⟩:=h
 exact ⟨n,h1,h2.below hb,h3⟩
theorem Nums.nil (w:World) (b:Nat):Nums w b (.slice none 0 0) []:=⟨0,rfl,OwnS.nil _ _ _,fun g h=>by simp [Value.ownBlock] at h⟩
theorem and_bit (k c:Nat):((k &&& 1 <<< c:Nat):Int)≠0↔k.testBit c=true:=by
 have e:k &&& 1 <<< c=2 ^ c*(k.testBit c).toNat:=by
  apply Nat.eq_of_testBit_eq
  intro i
  rw [Nat.testBit_and,Nat.one_shiftLeft,Nat.testBit_two_pow]
  by_cases h:c=i
  ·subst h
   cases hb:k.testBit c<;>simp
  ·cases hb:k.testBit c with
   | false=>simp [h]
   | true=>simp [h,Nat.testBit_two_pow]
 rw [e]
 cases hb:k.testBit c with
 | false=>simp
 | true =>
  have:=Nat.two_pow_pos c
  simp only [Bool.toNat_true,Nat.mul_one,iff_true]
  intro h
  have h':(2 ^ c:Nat)=0:=by exact_mod_cast h
  omega
def frI:Option Nat→Int
 | none=> -1
 | some i=>i
theorem choices_c {w:World} {g m k gf:Nat} {d:Dist} {us:List U} {dv uv:Value} {F:List Nat} {s:St} (hwd:WfD d) (hS:SrchF w g m d us dv uv gf F) (hn: ∀u∈us,Num d u) (h16:us.length≤16) (hk:k<2 ^ 32) (hs:SOK d s) (ht:0≤s.2∧s.2≤3000000) :
  Gives Tryz.prog 51 #[.pointer (some ⟨g,0,none⟩),.agg #[.int .u32 (k:Int),.int .i64 (offI s.1)],.int .i64 s.2] w fun x w'=>Below w.heap.size w w'∧ ∃L,Nums w' w.heap.size x L∧Cho d us F k s L:=by
 obtain ⟨U1,ucap,rfl,_⟩:=hS.s.units.form
 refine gv (f:=51) ?_
 refine rnT ?_
 refine TW.box rfl rfl rfl rfl ?_
 rintro g1 w1 f1
 refine rnT ?_
 refine TW.v V.nilCheck rfl ⟨ct,trivial⟩ (fun _=>trivial) ?_
 refine rnT ?_
 refine TW.ld rfl ((hS.step f1.below).s.blk.fld rfl) ?_
 refine rnT ?_
 refine CW.lp [0,2,4,14] (fun x:Nat×Value×Int=> [(7,none,x.2.1),(8,none,.int .i64 x.2.2),(15,none,.int .i64 (x.1:Int))])
  (fun x W=>x.1≤us.length∧Below w1.heap.size w1 W∧Nums W w1.heap.size x.2.1 (lstTo F k x.1)∧x.2.2=frI ((lstTo F k x.1).find? (freeAt d us s))∧ ∀(i:Nat) (u:U),i<x.1→us[i]?=some u→k.testBit i=false→CanB d s u) (fun x=>us.length-x.1) (0,.slice none 0 0,-1) ⟨Nat.zero_le _,Below.refl _ _,Nums.nil _ _,rfl,fun i u hi=>by omega⟩ ?_
 rintro ⟨c,lv,fr⟩ W ⟨hc,hB,hL,hfr,hcan⟩
 dsimp only at hc hB hL hfr hcan
 refine rnT ?_
 refine CW.condP rfl (fun hlt=> ?_) (fun hge=> ?_)
 ·have hcl:c<us.length:=by omega
  have hBk:=f1.blk.next hB
  have hpc:(1 <<< c:Nat)<2 ^ 32:=by rw [Nat.one_shiftLeft]; exact Nat.pow_lt_pow_right (by decide) (by omega)
  refine rnT ?_
  refine CW.draw mixed (by kernel_rfl) ?_
  refine rnD ?_
  refine DW.ld rfl (hBk.fld rfl) ?_
  refine DW.v V.move rfl ⟨ct,trivial⟩ (fun _=>trivial) ?_
  refine DW.v V.shl32 rfl ⟨ct,ct,trivial⟩ (fun _=>by omega) ?_
  refine DW.v V.and32 rfl ⟨ct,ct,trivial⟩ (fun _=>⟨hk,hpc⟩) ?_
  refine rnD ?_
  refine DW.fi [0,2,4,7,8,9,14,15,23] rfl fun w2 hb2=> ?_
  refine KW.then_ ?_
  obtain ⟨u,hu⟩: ∃u,us[c]?=some u:=⟨us[c],List.getElem?_eq_getElem hcl⟩
  have nu:=hn u (List.mem_of_getElem? hu)
  have hB2:=hB.step hb2
  refine CW.condP rfl (fun hbit=> ?_) (fun hnbit=> ?_)
  ·refine rnT ?_
   have hbt:=(and_bit k c).1 hbit
   have hls:lstTo F k (c+1)=lstTo F k c:=by rw [lstTo_succ,hbt]; simp
   refine KW.rd (c+1,lv,fr) ⟨by show c+1≤us.length; omega,hB2,?_,?_,fun i u' hi hu' hb=> ?_⟩
   ·show Nums _ _ lv (lstTo F k (c+1))
    rw [hls]
    exact hL.below hb2
   ·show fr=frI ((lstTo F k (c+1)).find? _)
    rw [hls]
    exact hfr
   ·have hi:i<c+1:=hi
    rcases Nat.lt_or_ge i c with h|h
    ·exact hcan i u' h hu' hb
    ·obtain rfl:i=c:=by omega
     rw [hbt] at hb; cases hb
  have hnb:k.testBit c=false:=by
   cases hq:k.testBit c with
   | false=>rfl
   | true=>exact absurd ((and_bit k c).2 hq) hnbit
  have hS2:=(hS.step f1.below).step hB2
  have hBk2:=hBk.next hb2
  refine rnT ?_
  refine TW.ldS rfl (fun _ _ h=>hBk2.fld h) ?_
  refine rnT ?_
  refine TW.cl rfl (begin_c (k:=k) hwd hS2.s hu nu hs ⟨by omega,ht.2⟩) ?_
  rintro y3 w3 ⟨hb3,rfl⟩
  refine rnT ?_
  refine CW.condP rfl (fun hneg=> ?_) (fun hpos=> ?_)
  ·refine rnT ?_
   refine rt1 rfl ⟨f1.below.step (hB2.step hb3),[],Nums.nil _ _,.inl ⟨⟨c,u,hu,hnb,fun h=> ?_⟩,rfl⟩⟩
   have:=(begI_nonneg (s:=s) nu).2 h
   omega
  have hcu:CanB d s u:=(begI_nonneg nu).1 (by omega)
  have hS3:=hS2.step hb3
  have hB3:=hB2.step hb3
  have hBk3:=hBk2.next hb3
  have hcF:c<F.length:=by rw [hS.len]; exact hcl
  have hc3:w3.cell? (Addr.add ⟨gf,0,none⟩ ((c:Int).toNat*1))=some (.int .u32 ((F.getD c 0:Nat):Int)):=hS3.fst.fld (by simp [List.getD_eq_getElem?_getD,hcF])
  refine rnT ?_
  refine CW.draw mixed (by kernel_rfl) ?_
  refine rnD ?_
  refine DW.v V.nilCheck rfl ⟨ct,trivial⟩ (fun _=>trivial) ?_
  refine rnD ?_
  refine DW.ld rfl (hS3.s.blk.fld rfl) ?_
  refine DW.v V.move rfl ⟨ct,trivial⟩ (fun _=>trivial) ?_
  refine DW.v V.indexAddr rfl ⟨ct,ct,trivial⟩ (fun _=>by have:=hS.len; (try dsimp only); omega) ?_
  refine DW.ld rfl hc3 ?_
  refine rnD ?_
  refine DW.ld rfl (hBk3.fld rfl) ?_
  refine DW.v V.andNot32 rfl ⟨ct,ct,trivial⟩ (fun _=>trivial) ?_
  refine rnD ?_
  refine DW.fi [0,2,4,7,8,9,14,15,40] rfl fun w4 hb4=> ?_
  refine KW.then_ ?_
  have hB4:=hB3.step hb4
  have hBk4:=hBk3.next hb4
  have hS4:=hS3.step hb4
  refine CW.condP rfl (fun hzero=> ?_) (fun hnz=> ?_)
  ·refine rnT ?_
   refine TW.buildSlice 3 _ rfl rfl rfl eo37 (Args.cons rfl ct Args.nil) rfl rfl rfl rfl rfl ?_
   rintro g5 w5 f5
   obtain ⟨n,hnl,hown,hvg⟩:=((((hL.below hb2).below hb3).below hb4).below f5.below)
   have hnc:n≤c:=by rw [hnl]; unfold lstTo; exact Nat.le_trans (List.length_filter_le _ _) (by simp)
   refine TW.append [.int .i64 (c:Int)] rfl rfl go37 rfl hown rfl rfl (fun j v hj=>⟨⟨g5,0,none⟩,rfl,f5.blk.fld hj⟩) (fun v hv=>by simp at hv; subst hv; rfl) (by omega) (by omega) ?_
   rintro lv' w6 hown6 hg6 hnew6
   refine rnT ?_
   have hB5:=hB4.step f5.below
   have hs5:=hB5.size
   have hB6:Below w1.heap.size w1 w6:=hB5.grown hg6 hs5 (fun q hq=>hvg q hq)
   have hS6:=(hS.step f1.below).step hB6
   have hBk6:=f1.blk.next hB6
   have hz0:andN (F.getD c 0) k=0:=by exact_mod_cast hzero
   have hls:lstTo F k (c+1)=lstTo F k c++ [c]:=by rw [lstTo_succ,hnb,hz0]; simp
   have hfa:freeAt d us s c=dec (Free d s u):=dec_congr ⟨fun ⟨u',h1,h2⟩=>by rw [hu] at h1; cases h1; exact h2,fun h=>⟨u,hu,h⟩⟩
   have hN6:Nums w6 w1.heap.size lv' (lstTo F k (c+1)):=by
    refine ⟨n+1,?_,?_,fun q hq=> ?_⟩
    ·rw [hls,List.length_append,←hnl]; rfl
    ·rw [hls,List.map_append]; exact hown6
    ·rcases hnew6 with h|h
     ·exact hvg q (by rw [←h]; exact hq)
     ·rw [h] at hq; cases hq; exact hs5
   have hcan': ∀(i:Nat) (u':U),i<c+1→us[i]?=some u'→k.testBit i=false→CanB d s u':=fun i u' hi hu' hb=>by
    rcases Nat.lt_or_ge i c with h|h
    ·exact hcan i u' h hu' hb
    ·obtain rfl:i=c:=by omega
     rw [hu] at hu'; cases hu'; exact hcu
   refine TW.ldS rfl (fun _ _ h=>hBk6.fld h) ?_
   refine rnT ?_
   refine TW.callF (cap:= []) rfl rfl en98 rfl ct (Args.cons rfl id (Args.cons rfl id (Args.cons rfl id (Args.cons rfl id Args.nil)))) (fun _=>free_c (k:=k) hwd hS6.s hu nu hs ht) ?_
   rintro w7 hb7
   refine rnT ?_
   refine CW.pk [0,2,4,7,8,9,14,15,53] rfl ?_
   have hffr:frI ((lstTo F k (c+1)).find? (freeAt d us s))=if (decide (fr<0)&&dec (Free d s u))=true then (c:Int) else fr:=by
    rw [hls,List.find?_append,hfr,←hfa]
    cases hq:(lstTo F k c).find? (freeAt d us s) with
    | some y =>
     have: ¬((y:Int)<0):=by omega
     simp [frI,this]
    | none =>
     cases hz:freeAt d us s c<;>simp [frI,List.find?,hz]
   refine CW.cond rfl (fun hyes=> ?_) (fun hno=> ?_)
   ·refine rnT ?_
    refine KW.rd (c+1,lv',(c:Int)) ⟨by show c+1≤us.length; omega,hB6.step hb7,hN6.below hb7,?_,hcan'⟩
    show (c:Int)=frI ((lstTo F k (c+1)).find? (freeAt d us s))
    rw [hffr,if_pos hyes]
   ·refine rnT ?_
    refine KW.rd (c+1,lv',fr) ⟨by show c+1≤us.length; omega,hB6.step hb7,hN6.below hb7,?_,hcan'⟩
    show fr=frI ((lstTo F k (c+1)).find? (freeAt d us s))
    rw [hffr,if_neg (by rw [hno]; simp)]
  ·refine rnT ?_
   have hz0: ¬andN (F.getD c 0) k=0:=fun h=>hnz (by rw [h]; rfl)
   have hls:lstTo F k (c+1)=lstTo F k c:=by rw [lstTo_succ,if_neg (fun h=>by rw [Bool.and_eq_true,decide_eq_true_eq] at h; exact hz0 h.2),List.append_nil]
   refine KW.rd (c+1,lv,fr) ⟨by show c+1≤us.length; omega,hB4,?_,?_,fun i u' hi hu' hb=> ?_⟩
   ·show Nums _ _ lv (lstTo F k (c+1))
    rw [hls]
    exact ((hL.below hb2).below hb3).below hb4
   ·show fr=frI ((lstTo F k (c+1)).find? _)
    rw [hls]
    exact hfr
   ·have hi:i<c+1:=hi
    rcases Nat.lt_or_ge i c with h|h
    ·exact hcan i u' h hu' hb
    ·obtain rfl:i=c:=by omega
     rw [hu] at hu'; cases hu'; exact hcu
 ·have hce:c=us.length:=by omega
  subst hce
  have hall: ∀(i:Nat) (u:U),us[i]?=some u→k.testBit i=false→CanB d s u:=fun i u hu hb=>hcan i u (List.getElem?_eq_some_iff.1 hu).1 hu hb
  refine rnT ?_
  refine CW.condP rfl (fun hge0=> ?_) (fun hlt0=> ?_)
  ·refine rnT ?_
   obtain ⟨y,hy⟩: ∃y,(lstTo F k us.length).find? (freeAt d us s)=some y:=by
    cases hq:(lstTo F k us.length).find? (freeAt d us s) with
    | some y=>exact ⟨y,rfl⟩
    | none =>
     rw [hq] at hfr
     rw [hfr] at hge0
     simp only [frI] at hge0
     exact absurd hge0 (by omega)
   rw [hy] at hfr
   subst hfr
   refine TW.buildSlice 3 _ rfl rfl rfl eo37 (Args.cons rfl ct Args.nil) rfl rfl rfl rfl rfl ?_
   rintro g5 w5 f5
   refine rnT ?_
   refine rt1 rfl ⟨f1.below.step (hB.step f5.below),[y],⟨1,rfl,?_,fun q hq=> ?_⟩,.inr ⟨hall,?_⟩⟩
   ·exact OwnS.of_blk f5.blk rfl (by decide)
   ·have e5:g5=q:=by simpa [Value.ownBlock] using hq
    subst e5
    have:=f5.at_
    have:=hB.size
    have:=f1.below.size
    omega
   ·unfold choOf
    rw [hy]
  ·refine rnT ?_
   refine rt1 rfl ⟨f1.below.step hB,lstTo F k us.length,?_,.inr ⟨hall,?_⟩⟩
   ·obtain ⟨n,h1,h2,h3⟩:=hL
    exact ⟨n,h1,h2,fun q hq=>Nat.le_trans f1.below.size (h3 q hq)⟩
   ·unfold choOf
    cases hq:(lstTo F k us.length).find? (freeAt d us s) with
    | none=>rfl
    | some y =>
     rw [hq] at hfr
     exact absurd (by rw [hfr]; simp only [frI]; omega) hlt0
end Go.Proofs.YtffjgpoadfkjlaaGreatDoor
namespace Go.Ord
variable {d:Dist}
structure SeqR (d:Dist) (us:List U) (L:List Nat) (T:List U):Prop where
 of:L.map (us[·]?)=T.map some
 perm:T.Perm us
 run:Run d (none,0) T
theorem SeqR.feas {us:List U} {L:List Nat} {T:List U} (h:SeqR d us L T):Feas d (none,0) us:=⟨T,h.perm,h.run⟩
def WayQ (d:Dist) (us:List U) (k:Nat) (s:St) (L:List Nat):Prop:= ∃T:List U,L.map (us[·]?)=T.map some∧Run d (none,0) T∧fin d (none,0) T=s∧(T++left us k).Perm us
theorem WayQ.zero (us:List U):WayQ d us 0 (none,0) []:=⟨[],rfl,trivial,rfl,by rw [left_zero]; exact List.Perm.refl _⟩
theorem WayQ.way {us:List U} {k:Nat} {s:St} {L:List Nat} (h:WayQ d us k s L):Way d us k s L.length:=by
 obtain ⟨T,h1,h2,h3,h4⟩:=h
 refine ⟨T,?_,h2,h3,h4⟩
 have:=congrArg List.length h1
 simpa using this.symm
theorem WayQ.step {us:List U} {k i:Nat} {s:St} {u:U} {L:List Nat} (h:WayQ d us k s L) (hu:us[i]?=some u) (hk:k.testBit i=false) (hc:CanB d s u):WayQ d us (k ||| 1 <<< i) (nxt d s u) (L++ [i]):=by
 obtain ⟨T,h1,h2,h3,h4⟩:=h
 refine ⟨T++ [u],by rw [List.map_append,List.map_append,h1]; simp [hu],?_,?_,?_⟩
 ·rw [Run.append,h3]; exact ⟨h2,hc,trivial⟩
 ·rw [fin_append,h3]; rfl
 ·rw [List.append_assoc]
  exact (List.Perm.append_left T (left_cons hk hu).symm).trans h4
theorem WayQ.seq {us:List U} {k:Nat} {s:St} {L:List Nat} (h:WayQ d us k s L) (hl:L.length=us.length): ∃T,SeqR d us L T:=by
 obtain ⟨T,h1,h2,h3,h4⟩:=h
 have hT:=congrArg List.length h1
 simp at hT
 have hlen:=h4.length_eq
 rw [List.length_append] at hlen
 have h0:left us k= []:=List.eq_nil_of_length_eq_zero (by omega)
 rw [h0,List.append_nil] at h4
 exact ⟨T,h1,h4,h2⟩
end Go.Ord
namespace Go.Proofs.YtffjgpoadfkjlaaGreatDoor
open Go.PF Go.RowKit Go.Ord
attribute [local irreducible] TW CW KW DW
variable {w:World}
theorem Nums.form {w:World} {b:Nat} {v:Value} {L:List Nat} (h:Nums w b v L): ∃A cap,v= .slice A L.length cap∧L.length≤cap:=by
 obtain ⟨n,rfl,h2,h3⟩:=h
 obtain ⟨A,cap,hv,hc,_⟩:=h2.form
 exact ⟨A,cap,hv,hc⟩
theorem Nums.get {b:Nat} {A:Option Addr} {n cap:Nat} {L:List Nat} (h:Nums w b (.slice A n cap) L) {i x:Nat} (hx:L[i]?=some x): ∃g,A=some ⟨g,0,none⟩∧w.cell? (Addr.add ⟨g,0,none⟩ ((i:Int).toNat*1))=some (.int .i64 (x:Int)):=by
 obtain ⟨m,rfl,h2,h3⟩:=h
 obtain ⟨A',cap',hv,hc,hl,hcell⟩:=h2.form
 simp only [Value.slice.injEq] at hv
 obtain ⟨rfl,_,rfl⟩:=hv
 obtain ⟨g,hA,_,hc2,_⟩:=hcell i (.int .i64 (x:Int)) (by simp [hx])
 refine ⟨g,hA,?_⟩
 rw [addr0]
 simpa using hc2
theorem Nums.kept {w w':World} {b g:Nat} {v:Value} {L:List Nat} (h:Nums w b v L) (hb:But g w w') (hg:g<b):Nums w' b v L:=by
 obtain ⟨n,h1,h2,h3⟩:=h
 refine ⟨n,h1,h2.kept fun q hq=>hb.block q (h2.lt hq) (fun e=> ?_),h3⟩
 cases e
 have:=h3 _ hq
 omega
theorem Nums.big {b:Nat} {v:Value} {L:List Nat} (h:Nums w b v L):L.length≤9223372036854775807:=by
 obtain ⟨n,h1,h2,h3⟩:=h
 rcases h2.2 with ⟨rfl,h0⟩|⟨g,cap,cur,hv,hg,hh,ha,hb,hc,hd⟩
 ·omega
 ·simp only [maxLen] at hb
  omega
theorem quick_c {g m gf:Nat} {d:Dist} {us:List U} {dv uv:Value} {F:List Nat} (hwd:WfD d) (hS:SrchF w g m d us dv uv gf F) (hn: ∀u∈us,Num d u) (h16:us.length≤16) :
  Gives Tryz.prog 23 #[.pointer (some ⟨g,0,none⟩)] w fun x w'=>Below w.heap.size w w' ∧
   (x= .tuple #[.slice none 0 0,.bool false]∨ ∃v L,x= .tuple #[v,.bool true]∧Nums w' w.heap.size v L∧(∀i∈L,i<us.length)∧ ∃T,SeqR d us L T):=by
 obtain ⟨U1,ucap,rfl,_⟩:=hS.s.units.form
 refine gv (f:=23) ?_
 refine rnT ?_
 refine TW.build [1] [.const (.int .i64 (-1))] [.int .u32 ((0:Nat):Int),.int .i64 (-1)] rfl rfl rfl (Args.cons rfl ct Args.nil) (by kernel_rfl) ?_
 refine TW.newVar rfl zc75 rfl sz75 rfl rfl ?_
 rintro g1 w1 f1
 refine rnT ?_
 refine TW.v V.nilCheck rfl ⟨ct,trivial⟩ (fun _=>trivial) ?_
 refine rnT ?_
 refine TW.ld rfl ((hS.step f1.below).s.blk.fld rfl) ?_
 refine rnT ?_
 have hg1:=f1.at_
 have hw1:=f1.size
 refine CW.lp [0,4,14] (fun x:Nat×Nat×St×Value=> [(5,none,.int .i64 x.2.2.1.2),(6,none,x.2.2.2),(15,none,.int .i64 (x.1:Int))])
  (fun x W=>x.1≤us.length∧Below w.heap.size w W∧w1.heap.size≤W.heap.size∧Blk W g1 75 [.int .u32 (x.2.1:Int),.int .i64 (offI x.2.2.1.1)]∧(∃L,Nums W w1.heap.size x.2.2.2 L∧L.length=x.1∧(∀i∈L,i<us.length)∧WayQ d us x.2.1 x.2.2.1 L)∧x.2.1<2 ^ 32∧0≤x.2.2.1.2∧x.2.2.1.2≤3000000) (fun x=>us.length-x.1) (0,0,(none,0),.slice none 0 0) ⟨Nat.zero_le _,f1.below,Nat.le_refl _,f1.blk,⟨[],Nums.nil _ _,rfl,(fun i hi=>by cases hi),WayQ.zero us⟩,(by decide:0<2 ^ 32),Int.le_refl _,(by decide:(0:Int)≤3000000)⟩ ?_
 rintro ⟨c,k,s,sv⟩ W ⟨hc,hB,hsz,hBk,⟨L,hL,hLl,hLi,hwayL⟩,hk,ht0,ht1⟩
 dsimp only at hc hB hsz hBk hL hLl hwayL hk ht0 ht1
 have hway:Go.Ord.Way d us k s c:=hLl ▸ hwayL.way
 refine rnT ?_
 refine CW.condP rfl (fun hlt=> ?_) (fun hge=> ?_)
 ·have hcl:c<us.length:=by omega
  have hSW:=hS.step hB
  have hsok:SOK d s:=hway.sok fun u hu=>(hn u hu).ok
  refine rnT ?_
  refine TW.ldS rfl (fun _ _ h=>hBk.fld h) ?_
  refine rnT ?_
  refine TW.cl rfl (choices_c (k:=k) hwd hSW hn h16 hk hsok ⟨ht0,ht1⟩) ?_
  rintro y2 w2 ⟨hb2,M,hM,hcho⟩
  obtain ⟨A2,cap2,rfl,_⟩:=hM.form
  refine rnT ?_
  refine CW.pk [0,4,5,6,7,14,15,23] rfl ?_
  refine CW.condP rfl (fun hz=> ?_) (fun hnz=> ?_)
  ·refine rnT ?_
   refine rt2 rfl ⟨hB.step hb2,.inl rfl⟩
  obtain ⟨i,hi⟩: ∃i,M[0]?=some i:=by
   cases M with
   | nil=>exact absurd rfl hnz
   | cons a M=>exact ⟨a,rfl⟩
  obtain ⟨ga,rfl,hci⟩:=hM.get hi
  obtain ⟨u,hu,hbit,hcan⟩:=hcho.mem (List.mem_of_getElem? hi)
  have hil:i<us.length:=(List.getElem?_eq_some_iff.1 hu).1
  have hMp:0<M.length:=(List.getElem?_eq_some_iff.1 hi).1
  have nu:=hn u (List.mem_of_getElem? hu)
  have hB2:=hB.step hb2
  have hS2:=hS.step hB2
  have hBk2:=hBk.next hb2
  obtain ⟨ua,rfl⟩:=hS.s.units.addr (by omega)
  obtain ⟨v1,hc1,hv1⟩:=uv_at hS2.s.units hu
  obtain ⟨t,x,kw,ke,ks,kr,rfl,mw,me,ms,mr,cw,ce,cs,cr⟩:=hv1
  have hbI:begI d s u=beg d s u:=by unfold begI; rw [dec_pos hcan,if_pos rfl]
  have hbr:=begI_rng (s:=s) nu
  have hbn:=(begI_nonneg (s:=s) nu).2 hcan
  have hsp:=nu.span
  refine rnT ?_
  refine TW.ld rfl hci ?_
  refine rnT ?_
  refine CW.draw mixed (by kernel_rfl) ?_
  refine rnD ?_
  refine DW.ldS rfl (fun _ _ h=>hBk2.fld h) ?_
  refine rnD ?_
  refine DW.cl (.ex (.int .i64 (begI d s u))) trivial rfl (fun _ w' hb'=>begin_c (k:=k) hwd (hS2.step hb').s hu nu hsok ⟨by omega,ht1⟩) ?_
  refine rnD ?_
  refine DW.v V.nilCheck rfl ⟨ct,trivial⟩ (fun _=>trivial) ?_
  refine rnD ?_
  refine DW.ld rfl (hS2.s.blk.fld rfl) ?_
  refine rnD ?_
  refine DW.ld rfl hc1 ?_
  refine DW.invoke (.ex (.int .i64 u.span)) trivial rfl rfl (ms) rfl ct DArgs.nil (fun _ w' _=>cs w') ?_
  refine rnD ?_
  refine DW.fi [0,4,5,6,7,8,14,15] rfl fun w3 hb3=> ?_
  refine rnT ?_
  have hS3:=hS2.step hb3
  have hBk3:=hBk2.next hb3
  have hB3:=hB2.step hb3
  refine TW.ldS rfl (fun _ _ h=>hBk3.fld h) ?_
  refine rnT ?_
  refine TW.cl rfl (after_c (k:=k) hS3.s hu hk (by omega)) ?_
  rintro y4 w4 ⟨hb4,rfl⟩
  have hBk4:=hBk3.next hb4
  have hB4:=hB3.step hb4
  refine TW.storeBlkF rfl rfl rfl hBk4 sz75 rfl rfl rfl ?_
  rintro w5 hBk5 hg5 hsz5
  refine rnT ?_
  have hB5:Below w.heap.size w w5:=hB4.grown hg5 hB4.size (fun q hq=>by cases hq; omega)
  have hL5:Nums w5 w1.heap.size sv L:=(((hL.below hb2).below hb3).below hb4).kept hg5 (by omega)
  refine TW.buildSlice 3 _ rfl rfl rfl eo37 (Args.cons rfl ct Args.nil) rfl rfl rfl rfl rfl ?_
  rintro g6 w6 f6
  obtain ⟨n,hnl,hown,hvg⟩:=hL5.below f6.below
  refine TW.append [.int .i64 (i:Int)] rfl rfl go37 rfl hown rfl rfl (fun j v hj=>⟨⟨g6,0,none⟩,rfl,f6.blk.fld hj⟩) (fun v hv=>by simp at hv; subst hv; rfl) (by omega) (by omega) ?_
  rintro sv' w7 hown7 hg7 hnew7
  refine rnT ?_
  have hB6:=hB5.step f6.below
  have hszs:w1.heap.size≤w6.heap.size:=by have:=hb2.size; have:=hb3.size; have:=hb4.size; have:=f6.below.size; omega
  have hB7:Below w.heap.size w w7:=hB6.grown hg7 hB6.size (fun q hq=>by have:=hvg q hq; omega)
  have hBk7:Blk w7 g1 75 [.int .u32 ((k ||| 1 <<< i:Nat):Int),.int .i64 (u.exit:Int)]:=by
   have h6:=hBk5.next f6.below
   refine (hg7.block g1 h6.lt (fun e=> ?_)).trans h6
   have:=hvg g1 e.symm
   omega
  have hp:(1 <<< i:Nat)<2 ^ 32:=by rw [Nat.one_shiftLeft]; exact Nat.pow_lt_pow_right (by decide) (by omega)
  refine KW.rd (c+1,k ||| 1 <<< i,nxt d s u,sv') ⟨by show c+1≤us.length; omega,hB7,Nat.le_trans hszs hg7.size,hBk7,⟨L++ [i],⟨n+1,by simp [hnl],by rw [List.map_append]; exact hown7,fun q hq=> ?_⟩,by simp [hLl],fun j hj=> ?_,hwayL.step hu hbit hcan⟩,Nat.or_lt_two_pow hk hp,?_,?_⟩ (hp:=by rw [hbI]; rfl)
  ·rcases hnew7 with h|h
   ·exact hvg q (by rw [←h]; exact hq)
   ·rw [h] at hq; cases hq; exact hszs
  ·rcases List.mem_append.1 hj with h|h
   ·exact hLi j h
   ·rw [List.mem_singleton] at h; omega
  ·show 0≤beg d s u+u.span
   omega
  ·show beg d s u+u.span≤3000000
   omega
 ·have hce:c=us.length:=by omega
  subst hce
  refine rnT ?_
  refine rt2 rfl ⟨hB,.inr ⟨sv,L,rfl,?_,hLi,hwayL.seq hLl⟩⟩
  obtain ⟨n,h1,h2,h3⟩:=hL
  exact ⟨n,h1,h2,fun q hq=>by have:=h3 q hq; omega⟩
end Go.Proofs.YtffjgpoadfkjlaaGreatDoor
namespace Go.Ord
open Go.PF
variable {d:Dist}
abbrev SK:=Nat×Option Nat
def stpV (t:Int) (u:Nat) (f:Int):Value:= .agg #[.int .i64 t,.int .i64 (u:Int),.int .i64 f]
theorem stpV_inj {t t':Int} {u u':Nat} {f f':Int} (h:stpV t u f=stpV t' u' f'):t=t':=by
 unfold stpV at h
 simp only [Value.agg.injEq,Array.mk.injEq,List.cons.injEq,Value.int.injEq,true_and] at h
 exact h.1
def Cnt (us:List U) (k c:Nat):Prop:=(left us k).length+c=us.length
theorem Way.cnt {us:List U} {k c:Nat} {s:St} (h:Way d us k s c):Cnt us k c:=by
 obtain ⟨T,h1,_,_,h4⟩:=h
 have:=h4.length_eq
 rw [List.length_append,h1] at this
 unfold Cnt
 omega
def Row (d:Dist) (us:List U) (c:Nat) (nx:List SK) (r:SK) (v:Value):Prop :=
 ∃ t u f n,v=stpV t u f∧(u<us.length∨u=0)∧Way d us r.1 (r.2,t) n∧n≤c∧0≤t∧t≤3000000∧r.1<2 ^ 16∧(n=c→r∈nx)∧ -1≤f
structure Lev (d:Dist) (us:List U) (c:Nat) (M:List (SK×Value)) (nx:List SK):Prop where
 rows: ∀p∈M,Row d us c nx p.1 p.2
 mem: ∀r∈nx,(∃v,(r,v)∈M)∧Cnt us r.1 c
 nd:nx.Nodup
def Had (us:List U) (c:Nat) (M:List (SK×Value)) (lv:List SK):Prop:= ∀r∈lv,(∃v,(r,v)∈M)∧Cnt us r.1 c
def Good (d:Dist) (us:List U) (M:List (SK×Value)) (l:List SK):Prop:= ∃r∈l,∃t u f,(r,stpV t u f)∈M∧Feas d (r.2,t) (left us r.1)
abbrev Once (M:List (SK×Value)):Prop:=M.Pairwise fun p q=>p.1≠q.1
theorem once_eq {κ:Type} {M:List (κ×Value)} (h:M.Pairwise fun p q=>p.1≠q.1) {r:κ} {v v':Value} (h1:(r,v)∈M) (h2:(r,v')∈M):v=v':=by
 obtain ⟨i,hi,e1⟩:=List.getElem_of_mem h1
 obtain ⟨j,hj,e2⟩:=List.getElem_of_mem h2
 have hp:=List.pairwise_iff_getElem.1 h
 rcases Nat.lt_trichotomy i j with q|q|q
 ·have:=hp i j hi hj q
  rw [e1,e2] at this
  exact absurd rfl this
 ·subst q
  rw [e1] at e2
  simp only [Prod.mk.injEq] at e2
  exact e2.2
 ·have:=hp j i hj hi q
  rw [e1,e2] at this
  exact absurd rfl this
theorem Lev.start (us:List U):Lev d us 0 [((0,none),stpV 0 0 0)] [(0,none)]:=by
 refine ⟨fun p hp=> ?_,fun r hr=> ?_,by simp⟩
 ·rw [List.mem_singleton] at hp
  subst hp
  exact ⟨0,0,0,0,rfl,.inr rfl,Way.zero us,Nat.le_refl _,Int.le_refl _,by decide,by decide,(fun _=>by simp),by decide⟩
 ·rw [List.mem_singleton] at hr
  subst hr
  exact ⟨⟨stpV 0 0 0,by simp⟩,(Way.zero (d:=d) us).cnt⟩
theorem Lev.next {us:List U} {c:Nat} {M:List (SK×Value)} {lv:List SK} (h:Lev d us c M lv):Lev d us (c+1) M []:=by
 refine ⟨fun p hp=> ?_,(fun r hr=>by cases hr),List.nodup_nil⟩
 obtain ⟨t,u,f,n,h1,h2,h3,h4,h5,h6,h7,h8,h9⟩:=h.rows p hp
 exact ⟨t,u,f,n,h1,h2,h3,by omega,h5,h6,h7,(fun e=>by omega),h9⟩
theorem Had.put {us:List U} {c:Nat} {M:List (SK×Value)} {lv:List SK} (h:Had us c M lv) (k:SK) (v:Value):Had us c (lput M k v) lv:=by
 intro r hr
 obtain ⟨⟨v',hv⟩,h2⟩:=h r hr
 refine ⟨?_,h2⟩
 by_cases e:r=k
 ·subst e; exact ⟨v,mem_lput.2 (.inl rfl)⟩
 ·exact ⟨v',mem_lput.2 (.inr ⟨hv,e⟩)⟩
theorem Lev.put {us:List U} {c:Nat} {M:List (SK×Value)} {nx nx':List SK} (h:Lev d us c M nx) {r:SK} {t:Int} {x:Nat} {f:Int} (hw:Way d us r.1 (r.2,t) c) (ht:0≤t∧t≤3000000) (hk:r.1<2 ^ 16) (hx:x<us.length) (hf: -1≤f) (hnd:nx'.Nodup)
  (hs: ∀q,q∈nx'↔q∈nx∨q=r):Lev d us c (lput M r (stpV t x f)) nx':=by
 refine ⟨fun p hp=> ?_,fun q hq=> ?_,hnd⟩
 ·rcases mem_lput.1 hp with rfl|⟨hp,_⟩
  ·exact ⟨t,x,f,c,rfl,.inl hx,hw,Nat.le_refl _,ht.1,ht.2,hk,fun _=>(hs _).2 (.inr rfl),hf⟩
  ·obtain ⟨t',u,f,n,h1,h2,h3,h4,h5,h6,h7,h8,h9⟩:=h.rows p hp
   exact ⟨t',u,f,n,h1,h2,h3,h4,h5,h6,h7,fun e=>(hs _).2 (.inl (h8 e)),h9⟩
 ·rcases (hs q).1 hq with hq|rfl
  ·obtain ⟨⟨v',hv⟩,h2⟩:=h.mem q hq
   refine ⟨?_,h2⟩
   by_cases e:q=r
   ·subst e; exact ⟨_,mem_lput.2 (.inl rfl)⟩
   ·exact ⟨v',mem_lput.2 (.inr ⟨hv,e⟩)⟩
  ·exact ⟨⟨_,mem_lput.2 (.inl rfl)⟩,hw.cnt⟩
theorem few_of_lt: ∀(B:Nat) (l:List Nat),l.Nodup→(∀x∈l,x<B)→l.length≤B
 | 0,l,_,h=>by
  cases l with
  | nil=>simp
  | cons x l=>exact absurd (h x (by simp)) (Nat.not_lt_zero _)
 | B+1,l,hn,h=>by
  have ih:=few_of_lt B (l.erase B) (hn.sublist List.erase_sublist) (fun x hx=>by
   have h1:=h x (List.mem_of_mem_erase hx)
   have h2:x≠B:=fun e=>by subst e; exact (hn.not_mem_erase hx)
   omega)
  by_cases hm:B∈l
  ·have:=List.length_erase_of_mem hm
   omega
  ·rw [List.erase_of_not_mem hm] at ih
   omega
def keyN (r:SK):Nat:=r.1*14+(match r.2 with|none=>13|some o=>o)
theorem Lev.few (hd:WfD d) {us:List U} (hu: ∀u∈us,UOK d u) {c:Nat} {M:List (SK×Value)} {nx:List SK} (h:Lev d us c M nx):nx.length≤917504:=by
 have hb: ∀r∈nx,r.1<2 ^ 16∧ ∀o,r.2=some o→o<12:=by
  intro r hr
  obtain ⟨⟨v,hv⟩,_⟩:=h.mem r hr
  obtain ⟨t,u,f,n,_,_,hw,_,_,_,h7,_⟩:=h.rows _ hv
  refine ⟨h7,fun o ho=> ?_⟩
  have:=hw.sok hu o ho
  have:=hd.few
  omega
 have hn:(nx.map keyN).Nodup:=by
  unfold List.Nodup
  rw [List.pairwise_map]
  refine List.Pairwise.imp_of_mem ?_ h.nd
  intro a b ha hb' hab e
  refine hab ?_
  obtain ⟨a1,a2⟩:=hb a ha
  obtain ⟨b1,b2⟩:=hb b hb'
  obtain ⟨k,o⟩:=a
  obtain ⟨k',o'⟩:=b
  unfold keyN at e
  cases o with
  | none=>cases o' with
   | none=>dsimp only at e; congr 1; omega
   | some y=>have:=b2 y rfl; dsimp only at e; omega
  | some x=>cases o' with
   | none=>have:=a2 x rfl; dsimp only at e; omega
   | some y =>
    have:=a2 x rfl
    have:=b2 y rfl
    dsimp only at e
    have h1:k=k':=by omega
    have h2:x=y:=by omega
    rw [h1,h2]
 have:=few_of_lt 917504 (nx.map keyN) hn (fun x hx=>by
  rw [List.mem_map] at hx
  obtain ⟨r,hr,rfl⟩:=hx
  obtain ⟨b1,b2⟩:=hb r hr
  unfold keyN
  cases ho:r.2 with
  | none=>dsimp only; omega
  | some o=>have:=b2 o ho; dsimp only; omega)
 simpa using this
theorem Lev.there {us:List U} {c:Nat} {M:List (SK×Value)} {nx:List SK} (h:Lev d us c M nx) {r:SK} {v:Value} (hv:(r,v)∈M) (hc:Cnt us r.1 c):r∈nx:=by
 obtain ⟨t,u,f,n,h1,h2,h3,h4,h5,h6,h7,h8,_⟩:=h.rows _ hv
 have:=h3.cnt
 unfold Cnt at this hc
 exact h8 (by dsimp only at this; omega)
theorem Good.put {us:List U} (hu: ∀u∈us,UOK d u) {M:List (SK×Value)} (ho:Once M) {l:List SK} (h:Good d us M l) {r:SK} {t:Int} {x:Nat} {f:Int} (hl: ∀t' u' f',(r,stpV t' u' f')∈M→t≤t'):Good d us (lput M r (stpV t x f)) l:=by
 obtain ⟨q,hq,t',u',f',hm,hf⟩:=h
 by_cases e:q=r
 ·subst e
  refine ⟨q,hq,t,x,f,mem_lput.2 (.inl rfl),Feas.better (better_time (hl t' u' f' hm)) (fun y hy=> ?_) hf⟩
  obtain ⟨j,_,hj⟩:=mem_left.1 hy
  exact hu y (List.mem_of_getElem? hj)
 ·exact ⟨q,hq,t',u',f',mem_lput.2 (.inr ⟨hm,e⟩),hf⟩
theorem Good.more {us:List U} {M:List (SK×Value)} {l l':List SK} (h:Good d us M l) (hl: ∀r∈l,r∈l'):Good d us M l':=by
 obtain ⟨q,hq,h⟩:=h
 exact ⟨q,hl q hq,h⟩
theorem Cho.feas (hd:WfD d) {us:List U} (hu: ∀u∈us,UOK d u) {F:List Nat} (hsm: ∀x∈F,x<2 ^ 32) (hF:FirstOK d us fun i=>F.getD i 0) (hF2: ∀i j,i<us.length→(F.getD i 0).testBit j=true→j<us.length) {k c:Nat} {s:St} (hs:SOK d s) {L:List Nat} (h:Cho d us F k s L)
  (hf:Feas d s (left us k)) (hc:Cnt us k c) (hlt:c<us.length): ∃x∈L,∃u,us[x]?=some u∧Feas d (nxt d s u) (left us (k ||| 1 <<< x)):=by
 rcases h with ⟨⟨i,u,h1,h2,h3⟩,_⟩|⟨hcan,rfl⟩
 ·exact absurd (feas_all hd hu hs hf h2 h1) h3
 ·unfold choOf
  split
  ·rename_i i hi
   have hm:=List.mem_of_find?_eq_some hi
   have hfr:=List.find?_some hi
   obtain ⟨u,hu',hfree⟩:=dec_iff.1 hfr
   obtain ⟨h1,h2,h3⟩:=mem_lstTo.1 hm
   exact ⟨i,by simp,u,hu',feas_free hd hu hs hf h2 hu' hfree⟩
  ·have hne: ∃i,i<us.length∧k.testBit i=false:=by
    unfold Cnt at hc
    have hl:0<(left us k).length:=by omega
    obtain ⟨i,h1,h2⟩:=mem_left.1 (List.getElem_mem hl)
    exact ⟨i,(List.getElem?_eq_some_iff.1 h2).1,h1⟩
   obtain ⟨i,u,h1,h2,h3,h4⟩:=feas_head hd hu hF hs hf hne
   have hil:=(List.getElem?_eq_some_iff.1 h1).1
   refine ⟨i,mem_lstTo.2 ⟨hil,h2,(andN_zero ?_).2 fun j hj=>h3 j (hF2 i j hil hj) hj⟩,u,h1,h4⟩
   rw [List.getD_eq_getElem?_getD]
   cases hq:F[i]? with
   | none=>simp
   | some y=>exact hsm y (List.mem_of_getElem? hq)
end Go.Ord
namespace Go.Proofs.YtffjgpoadfkjlaaGreatDoor
open Go.PF Go.RowKit Go.Ord
variable {w:World} {b:Nat} {v:Value} {l:List SK}
theorem offI_inj {a b:Option Nat} (h:offI a=offI b):a=b:=by
 cases a<;>cases b<;>simp only [offI] at h<;>first|rfl|omega|(congr 1; omega)
theorem offI_ge (a:Option Nat): -1≤offI a:=by cases a<;>simp only [offI]<;>omega
def stE (r:SK):Value:= .agg #[.int .u32 (r.1:Int),.int .i64 (offI r.2)]
theorem stE_eq (a b:SK) (w:World):(Op.equal 75 (stE a) (stE b)).run Tryz.prog w= .ok (decide (a=b)) w:=by
 have h:=(run_equalIn_flat (P:=Tryz.prog) (w:=w) (t:=75) (xs:= [.int .u32 (a.1:Int),.int .i64 (offI a.2)]) (ys:= [.int .u32 (b.1:Int),.int .i64 (offI b.2)]) (by kernel_rfl)).1
 have e:eqVs [.int .u32 (a.1:Int),.int .i64 (offI a.2)] [.int .u32 (b.1:Int),.int .i64 (offI b.2)]=decide (a=b):=by
  simp only [eqVs,eqV,Bool.and_true]
  by_cases h:a=b
  ·subst h; simp
  ·have: ¬((a.1:Int)=b.1∧offI a.2=offI b.2):=fun ⟨h1,h2⟩=>h (Prod.ext (by omega) (offI_inj h2))
   simp [h]
   intro h1 h2
   exact this ⟨by omega,h2⟩
 rw [←e]
 exact h
theorem stE_ok (e:Bool) (a:SK) (w:World):(Instr.checkKey e 10000 75 (stE a)).run Tryz.prog w= .ok () w:=by
 have h1: ∀x,(part 73 #[.int .u32 (a.1:Int),.int .i64 (offI a.2)] 0).run Tryz.prog x= .ok (.int .u32 (a.1:Int)) x:=fun x=>by simp [part,isAgg,run_underlying Tryz.underlying73]
 have h2: ∀x,(part 3 #[.int .u32 (a.1:Int),.int .i64 (offI a.2)] 1).run Tryz.prog x= .ok (.int .i64 (offI a.2)) x:=fun x=>by simp [part,isAgg,run_underlying Tryz.underlying3]
 rw [show (10000:Nat)=9998+1+1 from rfl]
 unfold stE Instr.checkKey
 simp only [Sem.run_bind,run_underlying Tryz.underlying75,Result.andThen_ok]
 simp [h1,h2,run_checkKey_int Tryz.underlying73,run_checkKey_int Tryz.underlying3]
theorem stE_inj (a b:SK) (h:stE a=stE b):a=b:=by
 unfold stE at h
 simp only [Value.agg.injEq,Array.mk.injEq,List.cons.injEq,Value.int.injEq,true_and,and_true] at h
 exact Prod.ext (by omega) (offI_inj h.2)
def stKey:GKey Tryz.prog 75 SK:=askKey Tryz.prog 75 stE (fun a b=>decide (a=b)) _ Tryz.underlying75 (fun a b=>by simp) stE_eq (fun a b=>rfl) (fun a=>by simp [stE,Instr.sameBits]) stE_ok stE_inj
theorem stZ:(Tryz.prog.info? 125).bind (·.zero)=some (stpV 0 0 0):=by kernel_rfl
def stC (r:SK):List Value:= [.int .u32 (r.1:Int),.int .i64 (offI r.2)]
def Lst (w:World) (b:Nat) (v:Value) (l:List SK):Prop:= ∃n,n=l.length∧OwnS w 75 2 v n (l.flatMap stC)∧ ∀g,v.ownBlock=some g→b≤g
theorem Lst.below {w w':World} {b:Nat} {v:Value} {l:List SK} (h:Lst w b v l) (hb:Below w.heap.size w w'):Lst w' b v l:=by
 obtain ⟨n,h1,h2,h3⟩:=h
 exact ⟨n,h1,h2.below hb,h3⟩
theorem Lst.less {b':Nat} (h:Lst w b v l) (hb:b'≤b):Lst w b' v l:=by
 obtain ⟨n,h1,h2,h3⟩:=h
 exact ⟨n,h1,h2,fun g hg=>Nat.le_trans hb (h3 g hg)⟩
theorem Lst.lt {w:World} {b:Nat} {v:Value} {l:List SK} (h:Lst w b v l) {g:Nat} (hg:v.ownBlock=some g):g<w.heap.size:=by
 obtain ⟨n,h1,h2,h3⟩:=h
 exact h2.lt hg
theorem Lst.kept {w w':World} {b:Nat} {o:Option Nat} {v:Value} {l:List SK} (h:Lst w b v l) (hb:w.grownBy w' o) (hg: ∀g,v.ownBlock=some g→o≠some g):Lst w' b v l:=by
 obtain ⟨n,h1,h2,h3⟩:=h
 exact ⟨n,h1,h2.kept fun q hq=>hb.block q (h2.lt hq) (fun e=>hg q hq e.symm),h3⟩
theorem Lst.nil (w:World) (b:Nat):Lst w b (.slice none 0 0) []:=⟨0,rfl,OwnS.nil _ _ _,fun g h=>by simp [Value.ownBlock] at h⟩
theorem Lst.form {w:World} {b:Nat} {v:Value} {l:List SK} (h:Lst w b v l): ∃A cap,v= .slice A l.length cap:=by
 obtain ⟨n,rfl,h2,h3⟩:=h
 obtain ⟨A,cap,hv,hc,_⟩:=h2.form
 exact ⟨A,cap,hv⟩
theorem Lst.get {A:Option Addr} {n cap:Nat} (h:Lst w b (.slice A n cap) l) {i:Nat} {r:SK} (hr:l[i]?=some r): ∃g,A=some ⟨g,0,none⟩∧ ∀j u,(stC r)[j]?=some u→w.cell? ((Addr.add ⟨g,0,none⟩ ((i:Int).toNat*2)).add j)=some u:=by
 obtain ⟨m,rfl,h2,h3⟩:=h
 obtain ⟨A',cap',hv,hc,hl,hcell⟩:=h2.form
 simp only [Value.slice.injEq] at hv
 obtain ⟨rfl,_,rfl⟩:=hv
 have hat:=fun j (hj:j<2)=>flat_at stC 2 l (fun x _=>rfl) i j r hr hj
 have h0:=hat 0 (by decide)
 obtain ⟨g,hA,_,_,_⟩:=hcell (i*2+0) (.int .u32 (r.1:Int)) (by rw [h0]; rfl)
 refine ⟨g,hA,fun j u hj=> ?_⟩
 have hj2:j<2:=(List.getElem?_eq_some_iff.1 hj).1
 obtain ⟨g',hA',_,hc',_⟩:=hcell (i*2+j) u (by rw [hat j hj2]; exact hj)
 rw [hA] at hA'
 simp only [Option.some.injEq,Addr.mk.injEq] at hA'
 obtain ⟨rfl,_,_⟩:=hA'
 rw [add_add,addr0]
 simpa using hc'
theorem Lst.big (h:Lst w b v l):l.length≤9223372036854775807:=by
 obtain ⟨n,h1,h2,h3⟩:=h
 rcases h2.2 with ⟨rfl,h0⟩|⟨g,cap,cur,hv,hg,hh,ha,hb,hc,hd⟩
 ·omega
 ·simp only [maxLen] at hb
  omega
theorem Nums.keptO {w':World} {o:Option Nat} {L:List Nat} (h:Nums w b v L) (hb:w.grownBy w' o) (hg: ∀g,v.ownBlock=some g→o≠some g):Nums w' b v L:=by
 obtain ⟨n,h1,h2,h3⟩:=h
 exact ⟨n,h1,h2.kept fun q hq=>hb.block q (h2.lt hq) (fun e=>hg q hq e.symm),h3⟩
theorem Nums.lt {w:World} {b:Nat} {v:Value} {L:List Nat} (h:Nums w b v L) {g:Nat} (hg:v.ownBlock=some g):g<w.heap.size:=by
 obtain ⟨n,h1,h2,h3⟩:=h
 exact h2.lt hg
theorem Blk.keptO {w':World} {o:Option Nat} {g:Nat} {t:TypeId} {cs:List Value} (h:Blk w g t cs) (hb:w.grownBy w' o) (hg:o≠some g):Blk w' g t cs:=(hb.block g h.lt (fun e=>hg e.symm)).trans h
structure FM (w0 W:World) (bm:Nat) (M:List (SK×Value)) (lvv:Value) (lv:List SK) (b2:Nat) (nxv:Value) (nx:List SK):Prop where
 bel:Below w0.heap.size w0 W
 map:MapL stKey W bm M
 lvl:Lst W (bm+1) lvv lv
 lvb: ∀g,lvv.ownBlock=some g→g<b2
 nxt:Lst W b2 nxv nx
 b0:w0.heap.size≤bm
 bb:bm<b2
 b2s:b2≤W.heap.size
theorem FM.step {w0 W W':World} {bm:Nat} {M:List (SK×Value)} {lvv:Value} {lv:List SK} {b2:Nat} {nxv:Value} {nx:List SK} (h:FM w0 W bm M lvv lv b2 nxv nx) (hb:Below W.heap.size W W'):FM w0 W' bm M lvv lv b2 nxv nx :=
 ⟨h.bel.step hb,h.map.below hb,h.lvl.below hb,h.lvb,h.nxt.below hb,h.b0,h.bb,Nat.le_trans h.b2s hb.size⟩
theorem FM.put {w0 W W':World} {bm:Nat} {M M':List (SK×Value)} {lvv:Value} {lv:List SK} {b2:Nat} {nxv:Value} {nx:List SK} (h:FM w0 W bm M lvv lv b2 nxv nx) (hs:W'.heap.size=W.heap.size) (hb:But bm W W') (hm:MapL stKey W' bm M'):FM w0 W' bm M' lvv lv b2 nxv nx:=by
 refine ⟨h.bel.grown hb h.bel.size (fun q hq=>by cases hq; exact h.b0),hm,h.lvl.kept hb (fun g hg e=> ?_),h.lvb,h.nxt.kept hb (fun g hg e=> ?_),h.b0,h.bb,by rw [hs]; exact h.b2s⟩
 ·cases e
  obtain ⟨n,h1,h2,h3⟩:=h.lvl
  have:=h3 _ hg
  omega
 ·cases e
  obtain ⟨n,h1,h2,h3⟩:=h.nxt
  have:=h3 _ hg
  have:=h.bb
  omega
theorem FM.app {w0 W W':World} {bm:Nat} {M:List (SK×Value)} {lvv:Value} {lv:List SK} {b2:Nat} {nxv nxv':Value} {nx nx':List SK} (h:FM w0 W bm M lvv lv b2 nxv nx) (hg:W.grownBy W' nxv.ownBlock) (hn:Lst W' b2 nxv' nx'):FM w0 W' bm M lvv lv b2 nxv' nx':=by
 have hown: ∀g,nxv.ownBlock=some g→b2≤g:=by obtain ⟨n,h1,h2,h3⟩:=h.nxt; exact h3
 have:=h.bb
 have:=h.b0
 refine ⟨h.bel.grown hg h.bel.size (fun q hq=>by have:=hown q hq; omega),h.map.kept (hg.block bm h.map.lt (fun e=>by have:=hown bm e.symm; omega)),h.lvl.kept hg (fun g hg' e=>by have:=hown g e; have:=h.lvb g hg'; omega),h.lvb,hn,h.b0,h.bb,Nat.le_trans h.b2s hg.size⟩
end Go.Proofs.YtffjgpoadfkjlaaGreatDoor
namespace Go.Ord
open Go.PF
variable {d:Dist}
theorem stpV_inj3 {t t':Int} {u u':Nat} {f f':Int} (h:stpV t u f=stpV t' u' f'):t=t'∧u=u'∧f=f':=by
 unfold stpV at h
 simp only [Value.agg.injEq,Array.mk.injEq,List.cons.injEq,Value.int.injEq,true_and,and_true] at h
 exact ⟨h.1,by omega,h.2.2⟩
def From (d:Dist) (us:List U) (M:List (SK×Value)) (r:SK) (t:Int) (u:Nat) (f:Int):Prop :=
 ∃ (q:SK) (t':Int) (u':Nat) (f':Int) (x:U),(q,stpV t' u' f')∈M∧Go.Proofs.YtffjgpoadfkjlaaGreatDoor.offI q.2=f∧us[u]?=some x∧q.1.testBit u=false∧r.1=q.1 ||| 1 <<< u∧CanB d (q.2,t') x∧nxt d (q.2,t') x=(r.2,t)
def Back (d:Dist) (us:List U) (M:List (SK×Value)):Prop:= ∀r t u f,(r,stpV t u f)∈M→(r=(0,none)∧t=0)∨From d us M r t u f
theorem Back.start (us:List U):Back d us [((0,none),stpV 0 0 0)]:=fun r t u f h=>by
 simp only [List.mem_singleton,Prod.mk.injEq] at h
 exact .inl ⟨h.1,stpV_inj h.2⟩
theorem Cnt.one {us:List U} {k a b:Nat} (h1:Cnt us k a) (h2:Cnt us k b):a=b:=by
 unfold Cnt at h1 h2
 omega
theorem Back.put {us:List U} {c:Nat} {M:List (SK×Value)} {nx:List SK} (hB:Back d us M) (hL:Lev d us c M nx) {r:SK} {t:Int} {x:Nat} {f:Int} (hc:Cnt us r.1 c) (hf:From d us M r t x f):Back d us (lput M r (stpV t x f)):=by
 have keep: ∀p s u g n,n≤c→Cnt us p.1 n→From d us M p s u g→From d us (lput M r (stpV t x f)) p s u g:=by
  rintro p t1 u1 f1 n hn hcn ⟨q,t',u',f',y,hq,h2,h3,h4,h5,h6,h7⟩
  refine ⟨q,t',u',f',y,mem_lput.2 (.inr ⟨hq,fun e=> ?_⟩),h2,h3,h4,h5,h6,h7⟩
  obtain ⟨t2,u2,f2,n2,e1,_,hw,_⟩:=hL.rows _ hq
  have e2:=stpV_inj e1
  subst e2
  have h8:=(Way.step hw h3 h4 h6).cnt
  rw [←h5] at h8
  have h9:=Cnt.one h8 hcn
  have h10:=hw.cnt
  dsimp only at e h10
  rw [e] at h10
  have:=Cnt.one h10 hc
  omega
 intro p t1 u1 f1 hp
 rcases mem_lput.1 hp with hp|⟨hp,hne⟩
 ·simp only [Prod.mk.injEq] at hp
  obtain ⟨rfl,hv⟩:=hp
  obtain ⟨rfl,rfl,rfl⟩:=stpV_inj3 hv
  exact .inr (keep p t1 u1 f1 c (Nat.le_refl _) hc hf)
 ·rcases hB p t1 u1 f1 hp with h|h
  ·exact .inl h
  ·obtain ⟨t2,u2,f2,n2,e1,_,hw,hn,_⟩:=hL.rows _ hp
   exact .inr (keep p t1 u1 f1 n2 hn hw.cnt h)
structure Rest (d:Dist) (us:List U) (r:SK) (t:Int) (L:List Nat) (T:List U):Prop where
 of:L.map (us[·]?)=T.map some
 perm:(left us r.1).Perm T
 run:Run d (r.2,t) T
theorem Rest.stop {us:List U} {r:SK} {t:Int} (h:Cnt us r.1 us.length):Rest d us r t [] []:=by
 have:left us r.1= []:=List.eq_nil_of_length_eq_zero (by unfold Cnt at h; omega)
 exact ⟨rfl,by rw [this],trivial⟩
theorem Rest.step {us:List U} {q r:SK} {t t':Int} {u:Nat} {x:U} {L:List Nat} {T:List U} (h:Rest d us r t L T) (hu:us[u]?=some x) (hb:q.1.testBit u=false) (hr:r.1=q.1 ||| 1 <<< u) (hc:CanB d (q.2,t') x) (hn:nxt d (q.2,t') x=(r.2,t)):Rest d us q t' (u::L) (x::T):=by
 refine ⟨by rw [List.map_cons,List.map_cons,hu,h.of],?_,hc,by rw [hn]; exact h.run⟩
 have:=left_cons hb hu
 rw [←hr] at this
 exact this.trans (h.perm.cons x)
theorem Rest.all {us:List U} {L:List Nat} {T:List U} (h:Rest d us (0,none) 0 L T):SeqR d us L T:=⟨h.of,by have:=h.perm; rw [left_zero] at this; exact this.symm,h.run⟩
theorem From.cnt {us:List U} {c n:Nat} {M:List (SK×Value)} {nx:List SK} (hL:Lev d us c M nx) {r:SK} {t:Int} {u:Nat} {f:Int} (h:From d us M r t u f) (hn:Cnt us r.1 n): ∃(q:SK) (t':Int) (u':Nat) (f':Int) (x:U),(q,stpV t' u' f')∈M∧Go.Proofs.YtffjgpoadfkjlaaGreatDoor.offI q.2=f∧us[u]?=some x∧q.1.testBit u=false∧r.1=q.1 ||| 1 <<< u∧CanB d (q.2,t') x∧nxt d (q.2,t') x=(r.2,t)∧q.1<2 ^ 16∧Cnt us q.1 (n-1)∧1≤n:=by
 obtain ⟨q,t',u',f',x,hq,h2,h3,h4,h5,h6,h7⟩:=h
 obtain ⟨t2,u2,f2,n2,e1,_,hw,_,_,_,hk,_⟩:=hL.rows _ hq
 have e2:=stpV_inj e1
 subst e2
 have h8:=(Way.step hw h3 h4 h6).cnt
 rw [←h5] at h8
 have h9:=Cnt.one h8 hn
 refine ⟨q,t',u',f',x,hq,h2,h3,h4,h5,h6,h7,hk,?_,by omega⟩
 have:=hw.cnt
 rw [show n-1=n2 by omega]
 exact this
theorem Back.none {us:List U} {c:Nat} {M:List (SK×Value)} {nx:List SK} (hB:Back d us M) (hL:Lev d us c M nx) {r:SK} {t:Int} {u:Nat} {f:Int} (h:(r,stpV t u f)∈M) (hc:Cnt us r.1 0):r=(0,none)∧t=0:=by
 rcases hB r t u f h with h'|h'
 ·exact h'
 ·obtain ⟨_,_,_,_,_,_,_,_,_,_,_,_,_,_,h1⟩:=h'.cnt hL hc
  omega
theorem Back.from {us:List U} {n:Nat} {M:List (SK×Value)} (hB:Back d us M) {r:SK} {t:Int} {u:Nat} {f:Int} (h:(r,stpV t u f)∈M) (hc:Cnt us r.1 n) (hn:1≤n):From d us M r t u f:=by
 rcases hB r t u f h with ⟨h',_⟩|h'
 ·subst h'
  have:Cnt us 0 0:=by unfold Cnt; rw [left_zero]; rfl
  have:=Cnt.one this hc
  omega
 ·exact h'
def RwB (d:Dist) (us:List U) (M:List (SK×Value)) (xs:List Nat) (x:Nat) (q:SK):Prop:=Cnt us q.1 x∧ ∃(t:Int) (u:Nat) (f:Int) (T:List U),(q,stpV t u f)∈M∧Rest d us q t (xs.drop x) T
theorem set_drop {xs:List Nat} {i u:Nat} (h:i<xs.length):(xs.set i u).drop i=u::xs.drop (i+1):=by
 rw [List.drop_eq_getElem_cons (by simpa using h),List.getElem_set_self,List.drop_set_of_lt (by omega)]
theorem andN_or {k u:Nat} (hk:k<2 ^ 32) (hb:k.testBit u=false):andN (k ||| 1 <<< u) (1 <<< u)=k:=by
 refine Nat.eq_of_testBit_eq fun i=> ?_
 rw [andN_bit,Nat.testBit_or,Nat.one_shiftLeft,Nat.testBit_two_pow]
 by_cases h:i<32
 ·by_cases e:u=i
  ·subst e
   simp [hb]
  ·simp [h,e]
 ·have:k.testBit i=false:=Nat.testBit_lt_two_pow (Nat.lt_of_lt_of_le hk (Nat.pow_le_pow_right (by decide) (by omega)))
  simp [h,this]
end Go.Ord
