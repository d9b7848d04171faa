/- Texts of this claim,joined. -/
import Derived.Test.YtobaafdejnimkaaGreatDoorQQ
import Derived.ProofKit
import Derived.JoinedOf
import Derived.Deep.Slices
import Derived.SizedLaws
set_option linter.unusedSimpArgs false
set_option linter.unusedVariables false
set_option maxRecDepth 100000
set_option maxHeartbeats 4000000
namespace Go.Proofs.YtobaafdejnimkaaGreatDoor
open Go.PF Go.RowKit Go.Ord
attribute [local irreducible] TW CW KW DW
variable {w:World} {gl:Nat} {x y:ByteArray} {ks:List Int}
def rootV (x y:ByteArray):Nat→Int
 | 0=>7
 | 1=>leafS x
 | _=>sumS [1,leafS x,leafS y]
theorem root_c {cl:Nat} (hx:x.size≤1000000) (hy:y.size≤1000000) (hL:Blk w gl 9 [.string x,.string y]) :
  Gives Tryz.prog 155 #[.slice (some ⟨gl,0,none⟩) 2 cl] w fun u w'=>Below w.heap.size w w'∧u= .int .i64 (sumS [1,leafS x,leafS y]):=by
 refine gvM (f:=155) ?_
 refine rnT ?_
 refine CW.condP rfl (fun hz=> ?_) (fun hz=> ?_)
 ·exact absurd hz (by decide)
 refine rnT ?_
 refine TW.newVar1 rfl zc3 rfl sz3 rfl ?_
 rintro g3 w1 f1
 refine rnT ?_
 refine TW.cl rfl (rows_c rfl rfl) ?_
 rintro yv w2 ⟨b2,g,rfl,hB2,hgg⟩
 have b02:=f1.below.step b2
 have hL2:=hL.next b02
 have hg3:=f1.at_
 have hg3s:=f1.size
 have hgl:=hL.lt
 have hB3:=f1.blk.next b2
 have hit:=rows_iter hx hy hB2 hL2
 have hs2:=b2.size
 refine rnT ?_
 refine CW.rangeW rfl en244 hit rfl (fun _=>rfl)
  (fun pre M W=>Below w.heap.size w W∧w2.heap.size≤W.heap.size∧Blk W g3 3 [.int .i64 (rootV x y pre.length)]∧M=fun k=>k=g3)
  (fun c pre M W=>False) (fun k=>k=g3) ?_ ?_ ?_ (fun _ _ _ _ _ h _=>h) ?_ ?_ ?_ ?_
 ·rintro k rfl
  refine ⟨by omega,?_⟩
  rintro (rfl|rfl)
  ·omega
  ·omega
 ·rintro k (rfl|rfl)
  ·exact hB2.lt
  ·exact hL2.lt
 ·rintro pre M W1 W2 ⟨a1,a2,a3,a4⟩ hx
  exact ⟨(hx.less (by omega)).below a1 (Nat.le_refl _),Nat.le_trans a2 hx.size,a3.ext hx,a4⟩
 ·exact ⟨b02,Nat.le_refl _,hB3,rfl⟩
 ·rintro D L pre ⟨rv,r⟩ M W hD hL' ⟨a1,a2,a3,rfl⟩ ⟨hp1,hp2,hrow⟩ hMlt hML hMD hrec
  dsimp only at hp1 hp2 hrow
  obtain ⟨A,cap,rfl,_⟩:=hrow.form
  have hz:r[0]?=some (rootV x y (pre.length+1)):=by
   have hl:=(List.getElem?_eq_some_iff.1 hp2).1
   have h2:pre.length=0∨pre.length=1:=by simp at hl; omega
   rcases h2 with h|h
   ·rw [h] at hp2 ⊢
    have:r=row0 x y:=by simpa using hp2.symm
    subst this
    rfl
   ·rw [h] at hp2 ⊢
    have:r=row1 x y:=by simpa using hp2.symm
    subst this
    rfl
  obtain ⟨hzl,_⟩:=List.getElem?_eq_some_iff.1 hz
  obtain ⟨ad,rfl⟩:=hrow.addr (by omega)
  refine rnT ?_
  refine KW.begin hrec fun W2 hx2 hsz2 hk2 hrec2=> ?_
  have hrow2:SL intT (fun k=>k<W.heap.size∧ ¬(k=g3)) W2 (.slice (some ad) r.length cap) r:=hrow.ext (hx2.less (Nat.zero_le _))
  have hB32:=a3.ext (hx2.less (Nat.zero_le _))
  have hLW:L<W.heap.size:=hrec.lt
  have hLg:L≠g3:=hML
  refine rnT ?_
  refine TW.ld rfl ((show W2.cell? (ad.add ((0:Int).toNat*1))=some (.int .i64 (rootV x y (pre.length+1))) from hrow2.getI hz)) ?_
  refine TW.storeFld rfl sz3 rfl rfl hB32 (by show 0<1; decide) rfl ?_
  rintro w3 hB33 hbut3 hs3
  refine rnT ?_
  have a1':Below w.heap.size w w3:=((hx2.less (by omega)).below a1 (Nat.le_refl _)).grown hbut3 ((hx2.less (by omega)).below a1 (Nat.le_refl _)).size (fun q hq=>by cases hq; omega)
  refine KW.endN (hrec2.kept (hbut3.block L (by have:=hrec2.lt; omega) (fun e=>hLg (by cases e; rfl)))) fun W9 hx9 hsz9 hk9 hrec9=> ?_
  refine ⟨by omega,fun k h1 h2 h3=>(hk9 k h3).trans ((hbut3.block k (by omega) (fun e=>h2 (by cases e; rfl))).trans (hk2 k h3)),fun _=>⟨fun k=>k=g3,⟨⟨(hx9.less (by omega)).below a1' (Nat.le_refl _),by omega,?_,rfl⟩,hML,hMD,hrec9⟩,fun k hk=>⟨.inl hk,?_⟩⟩,fun h=>by cases h⟩
  ·rw [List.length_append]
   exact hB33.ext (hx9.less (Nat.zero_le _))
  ·have hk:k=g3:=hk
   omega
 ·rintro D xs M W hD hdone ⟨a1,a2,a3,rfl⟩ hMD hdef
  have hdone':xs.map (·.2)= [row0 x y,row1 x y]:=hdone
  have hlen:xs.length=2:=by
   have:=congrArg List.length hdone'
   simpa using this
  rw [hlen] at a3
  have hDn:D<W.heap.size:=(Array.getElem?_eq_some_iff.1 hdef).1
  have hBp:Below w.heap.size w (W.putObj D (.deferred none)):=Below.putCtl a1 (by omega)
  refine KW.blockN (KW.then_ ?_)
  refine rnT ?_
  refine TW.ld rfl (a3.cell 0) ?_
  refine rnT ?_
  refine ret1M Tryz.results155 rfl hdef ⟨hBp,rfl⟩
 ·rintro D c pre M W hD h
  exact h.elim
theorem path_c {cl:Nat} (hx:x.size≤1000000) (hy:y.size≤1000000) (hL:Blk w gl 9 [.string x,.string y]) :
  Gives Tryz.prog 156 #[.slice (some ⟨gl,0,none⟩) 2 cl,.int .i64 0] w fun u w'=>Below w.heap.size w w'∧ ∃A c,u= .slice A 1 c∧OwnS w' 3 1 u 1 [.int .i64 (leafS y)]∧ ∀q,u.ownBlock=some q→w.heap.size≤q:=by
 refine gvM (f:=156) ?_
 refine rnT ?_
 refine TW.box rfl rfl rfl rfl ?_
 rintro g3 w1 f1
 refine rnT ?_
 refine TW.ld rfl (f1.blk.cell 0) ?_
 refine rnT ?_
 refine TW.ld rfl (f1.blk.cell 0) ?_
 refine rnT ?_
 refine CW.pk [0,1,3,4,19] rfl ?_
 refine CW.cond rfl (fun hz=> ?_) (fun hz=> ?_)
 ·exact absurd hz (by decide)
 refine rnT ?_
 refine TW.alloc rfl rfl zc32 ?_
 rintro g5 w2 f2
 refine rnT ?_
 refine TW.cl rfl (rows_c rfl rfl) ?_
 rintro yv w3 ⟨b3,g,rfl,hB3,hgg⟩
 have b03:=(f1.below.step f2.below).step b3
 have hL3:=hL.next b03
 have hg3:=f1.at_
 have hg3s:=f1.size
 have hg5:=f2.at_
 have hg5s:=f2.size
 have hgl:=hL.lt
 have hI3:=(f1.blk.next f2.below).next b3
 have hP3:=f2.blk.next b3
 have hit:=rows_iter hx hy hB3 hL3
 have hs3:=b3.size
 refine rnT ?_
 refine CW.rangeW rfl en244 hit rfl (fun _=>rfl)
  (fun pre M W=>Below w.heap.size w W∧w3.heap.size≤W.heap.size∧Blk W g3 3 [.int .i64 0]∧ ∃vf,Blk W g5 32 [vf]∧((pre.length=0∧vf= .slice none 0 0)∨(pre.length≠0∧OwnS W 3 1 vf 1 [.int .i64 (leafS y)]))∧(∀q,vf.ownBlock=some q→w3.heap.size≤q)∧M=fun k=>k=g5∨k=g3∨vf.ownBlock=some k)
  (fun c pre M W=>False) (fun k=>k=g5∨k=g3) ?_ ?_ ?_ (fun _ _ _ _ _ h _=>h) ?_ ?_ ?_ ?_
 ·rintro k hk
  have hk2:k<w3.heap.size∧k<w2.heap.size:=by rcases hk with rfl|rfl<;>omega
  refine ⟨hk2.1,?_⟩
  rintro (rfl|rfl)<;>omega
 ·rintro k (rfl|rfl)
  ·exact hB3.lt
  ·exact hL3.lt
 ·rintro pre M W1 W2 ⟨a1,a2,a3,vf,a4,a5,a6,a7⟩ hx
  exact ⟨(hx.less (by omega)).below a1 (Nat.le_refl _),Nat.le_trans a2 hx.size,a3.ext hx,vf,a4.ext hx,a5.imp id (fun h=>⟨h.1,h.2.ext hx⟩),a6,a7⟩
 ·exact ⟨b03,Nat.le_refl _,hI3,_,hP3,.inl ⟨rfl,rfl⟩,fun q hq=>by simp [Value.ownBlock] at hq,by funext k; simp [Value.ownBlock]⟩
 ·rintro D L pre ⟨rv,r⟩ M W hD hL' ⟨a1,a2,a3,vf,a4,a5,a6,rfl⟩ ⟨hp1,hp2,hrow⟩ hMlt hML hMD hrec
  dsimp only at hp1 hp2 hrow
  obtain ⟨A,cap,rfl,_⟩:=hrow.form
  have hrm:=hrow.len.2.2
  have hcase:(pre.length=0∧r=row0 x y)∨(pre.length=1∧r=row1 x y):=by
   have hl:=(List.getElem?_eq_some_iff.1 hp2).1
   have h2:pre.length=0∨pre.length=1:=by simp at hl; omega
   rcases h2 with h|h
   ·rw [h] at hp2
    exact .inl ⟨h,by simpa using hp2.symm⟩
   ·rw [h] at hp2
    exact .inr ⟨h,by simpa using hp2.symm⟩
  have hLg5:L≠g5:=fun e=>hML (.inl e)
  have hLg3:L≠g3:=fun e=>hML (.inr (.inl e))
  have hLv:vf.ownBlock≠some L:=fun e=>hML (.inr (.inr e))
  have hDv:vf.ownBlock≠some D:=fun e=>hMD (.inr (.inr e))
  have hvlt: ∀q,vf.ownBlock=some q→q<W.heap.size:=fun q hq=>hMlt q (.inr (.inr hq))
  refine rnT ?_
  refine KW.begin hrec fun W2 hx2 hsz2 hk2 hrec2=> ?_
  have hrow2:=hrow.ext (hx2.less (Nat.zero_le _))
  have hI2:=a3.ext (hx2.less (Nat.zero_le _))
  have hP2:=a4.ext (hx2.less (Nat.zero_le _))
  have hLW:L<W.heap.size:=hrec.lt
  have hLW2:L<W2.heap.size:=hrec2.lt
  have a1':Below w.heap.size w W2:=(hx2.less (by omega)).below a1 (Nat.le_refl _)
  refine rnT ?_
  refine CW.condP rfl (fun hlong=> ?_) (fun hshort=> ?_)
  ·have hp0:pre.length=0∧r=row0 x y:=by
    rcases hcase with h|⟨_,h⟩
    ·exact h
    ·rw [h] at hlong
     exact absurd hlong (by simp [row1])
   obtain ⟨hp0,rfl⟩:=hp0
   have hvn:vf= .slice none 0 0:=by
    rcases a5 with h|h
    ·exact h.2
    ·exact absurd hp0 h.1
   subst hvn
   refine CW.seq ?_
   refine CW.drawR mixed fun W5 hW5=> ?_
   refine RW.draw .weak 5 (by kernel_rfl) (by kernel_rfl) rfl rfl hW5 ?_
   refine DW.ld rfl (hP2.cell 0) ?_
   refine rnD ?_
   refine DW.ld rfl (hI2.cell 0) ?_
   refine DW.cl (.ex (.int .i64 (leafS y))) trivial rfl (fun _ w' hb'=>sibling2_c (a:=leafS x) (b:=leafS y) (hrow2.below hb')) ?_
   refine DW.buildSlice 3 _ rfl rfl rfl eo32 (DArgs.cons rfl ct DArgs.nil) rfl rfl rfl rfl rfl ?_
   refine DW.nil (DW.finX [0,1,3,4,5,6,22,26] [(0,_,_),(1,_,_),(3,_,_),(4,_,_),(5,_,_),(6,_,_),(22,_,_),(26,_,_)] rfl [30] rfl fun vs w5 b5 hs5=>KW.rk' ?_)
   obtain ⟨v30,rfl,h30⟩:=Sats.one hs5
   obtain ⟨g30,rfl,hB30⟩:=h30
   refine RW.one (by kernel_rfl) (by kernel_rfl) rfl ?_
   refine TW.append [.int .i64 (leafS y)] rfl rfl go32 rfl (OwnS.nil _ _ _) rfl rfl (fun j u hj=>⟨_,rfl,hB30.fld hj⟩) (fun u hu=>by simp at hu; subst hu; rfl) (by decide) (by decide) ?_
   rintro v6 w6 hO6 hg6 hn6
   refine TW.nil (KW.pick [0,1,3,4,5,6,22,31] [(0,_,_),(1,_,_),(3,_,_),(4,_,_),(5,_,_),(6,_,_),(22,_,_),(31,_,_)] rfl (KW.rk ?_))
   refine RW.one (by kernel_rfl) (by kernel_rfl) rfl ?_
   have s5:=b5.size
   have s6:=hg6.size
   have hg6':Below w5.heap.size w5 w6:=(Below.refl _ _).grown hg6 (Nat.le_refl _) (fun q hq=>by simp [Value.ownBlock] at hq)
   have b6:=b5.step hg6'
   have hown: ∀q,v6.ownBlock=some q→q=w5.heap.size:=fun q hq=>by
    rcases hn6 with h|h
    ·rw [h] at hq; simp [Value.ownBlock] at hq
    ·rw [h] at hq; cases hq; rfl
   have h1c:v6.oneCell'=true:=by
    obtain ⟨A6,c6,e6,_⟩:=hO6.form
    rw [e6]
    rfl
   refine TW.storeFld rfl sz32 rfl rfl (hP2.next b6) (by show 0<1; decide) h1c ?_
   rintro w7 hP7 hbut7 hs7
   refine TW.nil (KW.pick [0,1,3,4,5,6,22] [(0,_,_),(1,_,_),(3,_,_),(4,_,_),(5,_,_),(6,_,_),(22,_,_)] rfl (KW.rk ?_))
   refine RW.end rfl (KW.pick [0,1,3,4,5,6,22] [(0,_,_),(1,_,_),(3,_,_),(4,_,_),(5,_,_),(6,_,_),(22,_,_)] rfl (KW.then_ ?_))
   refine CW.region ?_
   have hI7:=hbut7.blk (hI2.next b6) (by omega)
   refine TW.ld rfl (hI7.cell 0) ?_
   refine rnT ?_
   refine TW.storeFld rfl sz3 rfl rfl hI7 (by show 0<1; decide) rfl ?_
   rintro w8 hI8 hbut8 hs8
   refine rnT ?_
   have hP8:=hbut8.blk hP7 (by omega)
   have hO8:OwnS w8 3 1 v6 1 [.int .i64 (leafS y)]:=hO6.kept fun q hq=>by
    have hq1:=hown q hq
    have hq2:=hO6.lt hq
    rw [hbut8.block q (by omega) (fun e=>by cases e; omega),hbut7.block q hq2 (fun e=>by cases e; omega)]
   have keep: ∀k,k<W2.heap.size→k≠g5→k≠g3→w8.heap[k]?=W2.heap[k]?:=fun k h1 h2 h3=>by
    rw [hbut8.block k (by omega) (fun e=>h3 (by cases e; rfl)),hbut7.block k (by omega) (fun e=>h2 (by cases e; rfl)),b6.block k h1]
   have a8:Below w.heap.size w w8:=by
    have q6:=a1'.step b6
    have q7:=q6.grown hbut7 q6.size (fun q hq=>by cases hq; omega)
    exact q7.grown hbut8 q7.size (fun q hq=>by cases hq; omega)
   refine KW.endN (hrec2.kept (keep L hLW2 hLg5 hLg3)) fun W9 hx9 hsz9 hk9 hrec9=> ?_
   refine ⟨by omega,fun k h1 h2 h3=>(hk9 k h3).trans ((keep k (by omega) (fun e=>h2 (.inl e)) (fun e=>h2 (.inr (.inl e)))).trans (hk2 k h3)),fun _=>⟨fun k=>k=g5∨k=g3∨v6.ownBlock=some k,⟨⟨(hx9.less (by omega)).below a8 (Nat.le_refl _),by omega,hI8.ext (hx9.less (Nat.zero_le _)),v6,hP8.ext (hx9.less (Nat.zero_le _)),.inr ⟨by simp,hO8.ext (hx9.less (Nat.zero_le _))⟩,fun q hq=>by have:=hown q hq; omega,rfl⟩,?_,?_,hrec9⟩,fun k hk=> ?_⟩,fun h=>by cases h⟩
   ·rintro (h|h|h)
    ·exact hLg5 h
    ·exact hLg3 h
    ·have:=hown L h; omega
   ·rintro (h|h|h)
    ·exact hMD (.inl h)
    ·exact hMD (.inr (.inl h))
    ·have:=hown D h; omega
   ·rcases hk with rfl|rfl|h
    ·exact ⟨.inl (.inl rfl),by omega⟩
    ·exact ⟨.inl (.inr (.inl rfl)),by omega⟩
    ·have:=hown k h
     have:=hO8.lt h
     exact ⟨.inr (by omega),by omega⟩
  ·have hp0:pre.length≠0:=by
    rcases hcase with ⟨_,h⟩|⟨h,_⟩
    ·rw [h] at hshort
     exact absurd hshort (by simp [row0])
    ·omega
   refine rnT ?_
   refine KW.endN hrec2 fun W9 hx9 hsz9 hk9 hrec9=> ?_
   refine ⟨by omega,fun k h1 h2 h3=>(hk9 k h3).trans (hk2 k h3),fun _=>⟨fun k=>k=g5∨k=g3∨vf.ownBlock=some k,⟨⟨(hx9.less (by omega)).below a1' (Nat.le_refl _),by omega,hI2.ext (hx9.less (Nat.zero_le _)),vf,hP2.ext (hx9.less (Nat.zero_le _)),.inr ⟨by simp,?_⟩,a6,rfl⟩,hML,hMD,hrec9⟩,fun k hk=>⟨.inl hk,by have:=hMlt k hk; omega⟩⟩,fun h=>by cases h⟩
   rcases a5 with h|h
   ·exact absurd h.1 hp0
   ·exact (h.2.ext (hx2.less (Nat.zero_le _))).ext (hx9.less (Nat.zero_le _))
 ·rintro D xs M W hD hdone ⟨a1,a2,a3,vf,a4,a5,a6,rfl⟩ hMD hdef
  have hdone':xs.map (·.2)= [row0 x y,row1 x y]:=hdone
  have hlen:xs.length=2:=by
   have:=congrArg List.length hdone'
   simpa using this
  have hO:OwnS W 3 1 vf 1 [.int .i64 (leafS y)]:=by
   rcases a5 with h|h
   ·omega
   ·exact h.2
  have hDn:D<W.heap.size:=(Array.getElem?_eq_some_iff.1 hdef).1
  have hBp:Below w.heap.size w (W.putObj D (.deferred none)):=Below.putCtl a1 (by omega)
  have hput:ExtF 0 W (W.putObj D (.deferred none)):=(ExtF.putObj hdef rfl (Nat.le_refl D)).less (Nat.zero_le _)
  obtain ⟨VA,vc,rfl,_⟩:=hO.form
  refine KW.blockN (KW.then_ ?_)
  refine rnT ?_
  refine TW.ld rfl (a4.cell 0) ?_
  refine rnT ?_
  refine ret1M Tryz.results156 rfl hdef ⟨hBp,VA,vc,rfl,hO.ext hput,fun q hq=>by have:=a6 q hq; have:=b03.size; omega⟩
 ·rintro D c pre M W hD h
  exact h.elim
def sgn (ks:List Int) (d:Dc):Dc:= {d with give:=sumS (firstS ks d),take:=sumS (secondS ks {d with give:=sumS (firstS ks d)})}
theorem sgn_sign (ks:List Int) (d:Dc):SignOK ks (sgn ks d):=⟨rfl,rfl⟩
theorem sgn_ok {d:Dc} (h:DocOK ks d):DocOK ks (sgn ks d):=⟨h.keys,h.lab,h.f0,h.f1,h.t0,h.t1,h.m0,h.m1,h.c0,h.c1,h.r,sumS_rng _,sumS_rng _⟩
theorem doc_dc {d:Dc} (h:DocOK ks d) (hk:ks.length≤6):DcOK d:=by
 have h1:=h.f1
 have h2:=h.t1
 have h3:=h.r
 have h4:=h.g
 have h5:=h.k
 have h6:=h.f0
 have h7:=h.t0
 have h8:=h.m0
 have h9:=h.m1
 have h10:=h.c0
 have h11:=h.c1
 exact ⟨⟨by omega,by omega⟩,⟨by omega,by omega⟩,⟨by omega,by omega⟩,⟨by omega,by omega⟩,⟨by omega,by omega⟩,⟨by omega,by omega⟩,⟨by omega,by omega⟩⟩
theorem hwrite_c {kv:Value} {fr to t:Int} {s:ByteArray} {F:Nat→Prop} (hk:SL intT F w kv ks) (hx:isLab x) (hy:isLab y) (hL:Blk w gl 9 [.string x,.string y]) (hls:SL strT (fun k=>k<w.heap.size) w (.slice (some ⟨gl,0,none⟩) 2 2) [x,y]) (hd:DocOK ks ⟨s,fr,to,t,2,sumS [1,leafS x,leafS y],0,0⟩) :
  Gives Tryz.prog 82 #[kv,.int .i64 fr,.int .i64 to,.string s,.int .i64 t,.slice (some ⟨gl,0,none⟩) 2 2] w fun u w'=>Below w.heap.size w w'∧u= .tuple #[.agg (dcV (sgn ks ⟨s,fr,to,t,2,sumS [1,leafS x,leafS y],0,0⟩)).toArray,.int .i64 0]:=by
 obtain ⟨D0,hD0⟩: ∃D0:Dc,D0=⟨s,fr,to,t,2,sumS [1,leafS x,leafS y],0,0⟩:=⟨_,rfl⟩
 have hV0:dcV D0= [.string s,.int .i64 fr,.int .i64 to,.int .i64 t,.int .i64 2,.int .i64 (sumS [1,leafS x,leafS y]),.int .i64 0,.int .i64 0]:=by rw [hD0]; rfl
 rw [←hD0] at hd ⊢
 have hk6:ks.length≤6:=hd.keys.2.1
 have hdc:=doc_dc hd hk6
 obtain ⟨KA,kc,rfl,_⟩:=hk.form
 have hx2:=hx.2.1
 have hy2:=hy.2.1
 refine gv (f:=82) ?_
 refine rnT ?_
 refine TW.alloc rfl rfl zc63 ?_
 rintro g12 w1 f1
 refine rnT ?_
 refine TW.cl rfl (areCont_c (hls.below f1.below)) ?_
 rintro u w2 ⟨b2,rfl⟩
 have hcont:ContOK [x,y]:=⟨by simp,by simp,fun z hz=>by
  simp only [List.mem_cons,List.not_mem_nil,or_false] at hz
  rcases hz with rfl|rfl<;>assumption⟩
 rw [dec_pos hcont]
 have b02:=f1.below.step b2
 refine rnT ?_
 refine CW.cond rfl (fun hz=> ?_) (fun hz=> ?_)
 ·exact absurd hz (by decide)
 refine rnT ?_
 refine TW.cl rfl (root_c (by omega) (by omega) (hL.next b02)) ?_
 rintro u w3 ⟨b3,rfl⟩
 have b03:=b02.step b3
 refine TW.build [0,1,2,3,4,5] _ (dcV D0) rfl rfl rfl (Args.cons rfl ct (Args.cons rfl ct (Args.cons rfl ct (Args.cons rfl ct (Args.cons rfl ct (Args.cons rfl ct Args.nil)))))) (by rw [hV0]; kernel_rfl) ?_
 refine TW.newVar rfl zc63 rfl sz63 rfl rfl ?_
 rintro g14 w4 f4
 refine rnT ?_
 refine TW.ldS rfl (fun _ _ hv=>f4.blk.fld hv) ?_
 refine rnT ?_
 refine TW.build [0,1] _ (sgV D0 (.slice KA ks.length kc)) rfl rfl rfl (Args.cons rfl ct (Args.cons rfl ct Args.nil)) (by kernel_rfl) ?_
 refine TW.newVar rfl zc115 rfl sz115 rfl rfl ?_
 rintro g15 w5 f5
 refine rnT ?_
 have hB5:=f5.blk
 refine TW.ldS rfl (fun _ _ hv=>hB5.fld hv) ?_
 refine TW.makeFuncB rfl rfl (Args.cons rfl ct Args.nil) Args.nil ?_
 refine TW.build [0,1] _ [.func (.func 68) #[.agg (sgV D0 (.slice KA ks.length kc)).toArray] #[],.int .i64 1] rfl rfl rfl (Args.cons rfl ct (Args.cons rfl ct Args.nil)) (by kernel_rfl) ?_
 refine TW.buildSlice 120 _ rfl rfl rfl eo202 (Args.cons rfl ct Args.nil) rfl rfl rfl rfl rfl ?_
 rintro g6 w6 f6
 have b46:=f5.below.step f6.below
 have b06:=b03.step (f4.below.step b46)
 have hk6':=hk.below b06
 have hS:=raw_lit (m:=2) (by decide) [[.func (.func 68) #[.agg (sgV D0 (.slice KA ks.length kc)).toArray] #[],.int .i64 1]] f6.blk rfl (by simp) (by simp)
 obtain ⟨rs,hrs⟩: ∃rs:List (Value×Bool×Int),rs= [(.func (.func 68) #[.agg (sgV D0 (.slice KA ks.length kc)).toArray] #[],!dec (DocOK ks D0),1)]:=⟨_,rfl⟩
 have hcc: ∀pre r suf W,rs=pre++r::suf→(∀q∈pre,q.2.1=false)→Below w6.heap.size w6 W→Thk Tryz.prog r.1 [] W fun u W'=>Below W.heap.size W W'∧u= .bool r.2.1:=by
  intro pre r suf W hcut hpre hbW
  rw [hrs] at hcut
  rcases pre with _|⟨a1,pre⟩<;>simp at hcut
  obtain ⟨rfl,_⟩:=hcut
  exact ⟨_,[_],[],rfl,en68,malformed_c (hk6'.below hbW) hdc⟩
 refine TW.cl rfl (firstError_c (rs:=rs) (by rw [hrs]; exact hS) (by rw [hrs]; simp [Value.oneCell']) hcc) ?_
 rintro u w7 ⟨b7,rfl⟩
 have hee:errL (rs.map (·.2))=0:=by
  rw [hrs,dec_pos hd]
  rfl
 rw [hee]
 have b07:=b06.step b7
 refine rnT ?_
 refine CW.pk [0,1,2,3,4,5,12,13,14,15,16,39] rfl ?_
 refine CW.condP rfl (fun hz=> ?_) (fun hz=> ?_)
 ·exact absurd hz (by decide)
 have hB7:=hB5.next (f6.below.step b7)
 refine rnT ?_
 refine TW.ldS rfl (fun _ _ hv=>hB7.fld hv) ?_
 refine TW.cl rfl (first_c (hk.below b07) hdc (by have:=hd.lab.2.1; omega) hd.f0 hd.f1) ?_
 rintro u w8 ⟨b8,h8⟩
 obtain ⟨FA,fc,rfl,_⟩:=h8.form
 refine TW.cl rfl (dsum_c h8) ?_
 rintro u w9 ⟨rfl,rfl⟩
 refine rnT ?_
 have hB8:=hB7.next b8
 refine TW.storeFld (j:=6) rfl sz3 rfl rfl hB8 (by show 6<9; decide) rfl ?_
 rintro w10 hB10 hbut10 hs10
 refine rnT ?_
 have q5:=f5.at_
 have s5:w.heap.size≤w4.heap.size:=(b03.step f4.below).size
 have b08:=b07.step b8
 have b10:Below w.heap.size w w10:=b08.grown hbut10 b08.size (fun q hq=>by cases hq; omega)
 have hD1:(sgV D0 (.slice KA ks.length kc)).set 6 (.int .i64 (sumS (firstS ks D0)))=sgV {D0 with give:=sumS (firstS ks D0)} (.slice KA ks.length kc):=rfl
 rw [hD1] at hB10
 refine TW.ldS rfl (fun _ _ hv=>hB10.fld hv) ?_
 refine TW.cl rfl (second_c (d:= {D0 with give:=sumS (firstS ks D0)}) (hk.below b10) ⟨hdc.f,hdc.t,hdc.m,hdc.c,hdc.r,sum_i64 _,hdc.k⟩ hd.t0 hd.t1) ?_
 rintro u w11 ⟨b11,h11⟩
 obtain ⟨GA,gc,rfl,_⟩:=h11.form
 refine TW.cl rfl (dsum_c h11) ?_
 rintro u w12 ⟨rfl,rfl⟩
 refine rnT ?_
 have hB11:=hB10.next b11
 refine TW.storeFld (j:=7) rfl sz3 rfl rfl hB11 (by show 7<9; decide) rfl ?_
 rintro w13 hB13 hbut13 hs13
 refine rnT ?_
 have b011:=b10.step b11
 have b13:Below w.heap.size w w13:=b011.grown hbut13 b011.size (fun q hq=>by cases hq; omega)
 have hD2:(sgV {D0 with give:=sumS (firstS ks D0)} (.slice KA ks.length kc)).set 7 (.int .i64 (sumS (secondS ks {D0 with give:=sumS (firstS ks D0)})))=sgV (sgn ks D0) (.slice KA ks.length kc):=rfl
 rw [hD2] at hB13
 refine TW.ldS rfl (fun j u hj=>Blk.subp hB13 0 (dcV (sgn ks D0)) _ rfl j u hj) ?_
 have q12:=f1.at_
 have e12:=f1.size
 have hR1:=f1.blk.next (b2.step (b3.step (f4.below.step (b46.step (b7.step b8)))))
 have s4:=(b2.step (b3.step f4.below)).size
 have hR10:=hbut10.blk hR1 (by omega)
 have hR13:=hbut13.blk (hR10.next b11) (by omega)
 refine TW.storeBlkF rfl rfl rfl hR13 sz63 rfl rfl rfl ?_
 rintro wr hBr hbutr hszr
 refine rnT ?_
 refine ret2CS Tryz.results82 Tryz.underlying63 (by exact sz63) rfl rfl hBr ⟨b13.grown hbutr b13.size (fun q hq=>by cases hq; omega),rfl⟩
theorem prove_c (hx:isLab x) (hy:isLab y) (hL:Blk w gl 9 [.string x,.string y]) (hls:SL strT (fun k=>k<w.heap.size) w (.slice (some ⟨gl,0,none⟩) 2 2) [x,y]) :
  Gives Tryz.prog 83 #[.slice (some ⟨gl,0,none⟩) 2 2,.int .i64 0] w fun u w'=>Below w.heap.size w w'∧ ∃A c,u= .tuple #[.agg #[.int .i64 0,.slice A 1 c],.int .i64 0]∧SL intT (fun k=>w.heap.size≤k∧k<w'.heap.size) w' (.slice A 1 c) [leafS y]:=by
 have hx2:=hx.2.1
 have hy2:=hy.2.1
 refine gv (f:=83) ?_
 refine rnT ?_
 refine TW.alloc rfl rfl zc65 ?_
 rintro g4 w1 f1
 refine rnT ?_
 refine TW.cl rfl (areCont_c (hls.below f1.below)) ?_
 rintro u w2 ⟨b2,rfl⟩
 have hcont:ContOK [x,y]:=⟨by simp,by simp,fun z hz=>by
  simp only [List.mem_cons,List.not_mem_nil,or_false] at hz
  rcases hz with rfl|rfl<;>assumption⟩
 rw [dec_pos hcont]
 have b02:=f1.below.step b2
 refine rnT ?_
 refine TW.callF (cap:= []) rfl rfl en137 rfl ct (Args.cons rfl id (Args.cons rfl id Args.nil)) (fun _=>below_c) ?_
 rintro w3 b3
 refine rnT ?_
 refine CW.pk [0,1,4,5,15] rfl ?_
 have b03:=b02.step b3
 refine CW.cond rfl (fun hz=> ?_) (fun hz=> ?_)
 ·exact absurd hz (by decide)
 refine rnT ?_
 refine TW.cl rfl (path_c (by omega) (by omega) (hL.next b03)) ?_
 rintro u w4 ⟨b4,A,c,rfl,hO4,hf4⟩
 have b04:=b03.step b4
 refine TW.build [0,1] _ [.int .i64 0,.slice A 1 c] rfl rfl rfl (Args.cons rfl ct (Args.cons rfl ct Args.nil)) (by kernel_rfl) ?_
 have q4:=f1.at_
 have e4:=f1.size
 have hR4:=f1.blk.next (b2.step (b3.step b4))
 refine TW.storeBlkF rfl rfl rfl hR4 sz65 rfl rfl rfl ?_
 rintro wr hBr hbutr hszr
 refine rnT ?_
 have s2:=b2.size
 have s3:=b3.size
 have hOr:OwnS wr 3 1 (.slice A 1 c) 1 [.int .i64 (leafS y)]:=hO4.kept fun q hq=>hbutr.block q (hO4.lt hq) (fun e=>by have:=hf4 q hq; cases e; omega)
 have s0:=b03.size
 have hI:SL intT (fun k=>w.heap.size≤k∧k<wr.heap.size) wr (.slice A 1 c) [leafS y]:=OwnS.toInts (l:= [leafS y]) hOr (fun z hz=>by rw [List.mem_singleton] at hz; subst hz; exact sum_i64 _) (fun q hq=>⟨by have:=hf4 q hq; omega,hOr.lt hq⟩) (by simp)
 refine ret2CS Tryz.results83 Tryz.underlying65 (by exact sz65) rfl rfl hBr ⟨b04.grown hbutr b04.size (fun q hq=>by cases hq; omega),A,c,rfl,hI⟩
end Go.Proofs.YtobaafdejnimkaaGreatDoor
namespace Go.Proofs.YtobaafdejnimkaaGreatDoor
open Go.PF Go.RowKit Go.Ord
theorem i64_small {x:Int} (h0: -1000000≤x) (h1:x≤1000000):I64 x:=⟨by show (-9223372036854775808:Int)≤x; omega,by show x≤9223372036854775807; omega⟩
theorem lit_int {w:World} {g:Nat} {t:TypeId} {n:Nat} (l:List Int) (h:Blk w g t (l.map (Value.int .i64))) (hn:n=l.length) (hI: ∀x∈l,-1000000≤x∧x≤1000000) (hs:l.length≤1000000):SI w (.slice (some ⟨g,0,none⟩) n n) l:=by
 subst hn
 exact OwnS.toInts (OwnS.of_blk h (by simp) (by omega)) (fun x hx=>i64_small (hI x hx).1 (hI x hx).2) (fun q hq=>by simp [Value.ownBlock] at hq; subst hq; exact h.lt) (by omega)
theorem lit_rows {w:World} {g:Nat} {t:TypeId} {n:Nat} (ps:List (Value×List Int)) (h:Blk w g t (ps.map (·.1))) (hn:n=ps.length) (hp: ∀p∈ps,SI w p.1 p.2) (hs:ps.length≤1000000):SD w (.slice (some ⟨g,0,none⟩) n n) (ps.map (·.2)):=by
 subst hn
 have e1:(ps.map fun p=>(([p.1],p.2):List Value×List Int)).map (·.2)=ps.map (·.2):=by simp
 have e2:(ps.map fun p=>(([p.1],p.2):List Value×List Int)).flatMap (·.1)=ps.map (·.1):=by
  clear h hp hs e1
  induction ps with
  | nil=>rfl
  | cons p ps ih=>simp [ih]
 have:=OwnS.toSLp (T:=sliceT intT) (F:=fun k=>k<w.heap.size) (w:=w) (e:=t) (v:= .slice (some ⟨g,0,none⟩) ps.length ps.length) (n:=ps.length) (ps.map fun p=>([p.1],p.2)) (fun p hp'=>by
  obtain ⟨q,hq,rfl⟩:=List.mem_map.1 hp'
  exact ⟨q.1,rfl,hp q hq⟩) (by show 0<1; decide) (by rw [e2]; exact OwnS.of_blk h (by show (ps.map (·.1)).length=ps.length*1; simp) (by omega)) (by simp) (fun q hq=>by simp [Value.ownBlock] at hq; subst hq; exact h.lt) (by simp; omega)
 rw [e1] at this
 exact this
end Go.Proofs.YtobaafdejnimkaaGreatDoor
namespace Go.Proofs.YtobaafdejnimkaaGreatDoor
open Go.PF Go.RowKit Go.Ord
attribute [local irreducible] TW CW KW DW
variable {w:World} {l:List Ev} {N:Net} {c:Cl} {d:Dist} {ws:List (List Int)} {t:Int} {ps:List Pp} {v:NV} {g:Nat} {lv:Value} {ks:List Int}
theorem litP {α:Type} {T:Ty α} {t:TypeId} {n:Nat} (h0:0<T.n) (ps:List (List Value×α)) (h:Blk w g t (ps.flatMap (·.1))) (hn:n=ps.length) (hp: ∀p∈ps,T.rep (fun k=>k<w.heap.size) w p.1 p.2) (hs:ps.length≤1000000):SL T (fun k=>k<w.heap.size) w (.slice (some ⟨g,0,none⟩) n n) (ps.map (·.2)):=by
 subst hn
 exact OwnS.toSLp (T:=T) (F:=fun k=>k<w.heap.size) (w:=w) (e:=t) (v:= .slice (some ⟨g,0,none⟩) ps.length ps.length) (n:=ps.length) ps hp h0 (OwnS.of_blk h (flat_len (fun p:List Value×α=>p.1) T.n ps (fun p hp'=>T.len _ _ _ _ (hp p hp'))) (by omega)) rfl (fun q hq=>by simp [Value.ownBlock] at hq; subst hq; exact h.lt) (by omega)
theorem s1 (n:UInt8):(bya n).size≤9223372036854775807:=by show 1≤_; decide
theorem example_c:Gives Tryz.prog 29 #[] w fun u w'=>Below w.heap.size w w'∧ ∃v:NV,u= .agg v.cells.toArray∧NetAt w' v N0:=by
 refine gv (f:=29) ?_
 refine rnT ?_
 refine TW.alloc rfl rfl zc29 ?_
 rintro g0 w0 f0
 refine rnT ?_
 refine TW.buildSlice 4 _ rfl rfl rfl eo134 (Args.cons rfl ct (Args.cons rfl ct (Args.cons rfl ct (Args.cons rfl ct (Args.cons rfl ct (Args.cons rfl ct (Args.cons rfl ct Args.nil))))))) rfl rfl rfl rfl rfl ?_
 rintro gw wA fA
 refine TW.build [1] _ [.int .i64 0,.slice (some ⟨gw,0,none⟩) 7 7,.slice none 0 0] rfl rfl rfl (Args.cons rfl ct Args.nil) (by kernel_rfl) ?_
 refine TW.newVar rfl zc136 rfl sz136 rfl rfl ?_
 rintro g1 w1 f1
 refine rnT ?_
 refine TW.build [0,3,4,5] _ [.string (bya 97),.int .i64 0,.int .i64 0,.int .i64 8,.int .i64 2,.int .i64 10,.slice none 0 0] rfl rfl rfl (Args.cons rfl ct (Args.cons rfl ct (Args.cons rfl ct (Args.cons rfl ct Args.nil)))) (by kernel_rfl) ?_
 refine TW.newVar rfl zc110 rfl sz110 rfl rfl ?_
 rintro g2 w2 f2
 refine rnT ?_
 refine TW.ldS rfl (fun _ _ hv=>f2.blk.fld hv) ?_
 refine TW.newVar rfl zc110 rfl sz110 rfl rfl ?_
 rintro g3 w3 f3
 refine rnT ?_
 refine TW.storeFld (j:=0) rfl sz9 rfl rfl f3.blk (by show 0<7; decide) rfl ?_
 rintro w4' hB4' hbut4' hsz4'
 refine rnT ?_
 refine TW.storeFld (j:=1) rfl sz3 rfl rfl hB4' (by show 1<7; decide) rfl ?_
 rintro w4 hB4 hbut4'' hsz4''
 refine rnT ?_
 have hbut4:But g3 w3 w4:=hbut4'.trans hbut4''
 have hsz4:w4.heap.size=w3.heap.size:=by omega
 have q0:=f0.at_
 have q0':=f0.size
 have q3:=f3.at_
 have q3':=f3.size
 have b03:Below w.heap.size w w3:=f0.below.step (fA.below.step (f1.below.step (f2.below.step f3.below)))
 have b13:=f1.below.step (f2.below.step f3.below)
 have k4: ∀ {g:Nat} {t:TypeId} {cs:List Value},Blk w3 g t cs→g≠g3→Blk w4 g t cs:=fun h hne=>hbut4.blk h hne
 have sA:=fA.below.size
 have s1':=f1.below.size
 have s2':=f2.below.size
 have hBw:Blk w4 gw 4 [.bool true,.bool true,.bool true,.bool true,.bool true,.bool false,.bool false]:=k4 (fA.blk.next b13) (by have:=fA.blk.lt; omega)
 have hB1:=k4 (f1.blk.next (f2.below.step f3.below)) (by have:=f1.blk.lt; omega)
 have hB2:=k4 (f2.blk.next f3.below) (by have:=f2.blk.lt; omega)
 have hB0:=k4 (f0.blk.next (fA.below.step b13)) (by have:=f0.blk.lt; omega)
 have hb4:Below w.heap.size w w4:=b03.grown hbut4 b03.size (fun q hq=>by cases hq; omega)
 refine TW.ldS rfl (fun _ _ hv=>hB1.fld hv) ?_
 refine TW.buildSlice 136 _ rfl rfl rfl eo22 (Args.cons rfl ct Args.nil) rfl rfl rfl rfl rfl ?_
 rintro g5 w5 f5
 refine TW.buildSlice 9 _ rfl rfl rfl eo23 (Args.cons rfl ct Args.nil) rfl rfl rfl rfl rfl ?_
 rintro g6 w6 f6
 refine TW.build [0] _ [.string (bya 112)] rfl rfl rfl (Args.cons rfl ct Args.nil) (by kernel_rfl) ?_
 refine TW.build [0] _ [.string (bya 113)] rfl rfl rfl (Args.cons rfl ct Args.nil) (by kernel_rfl) ?_
 refine TW.buildSlice 138 _ rfl rfl rfl eo24 (Args.cons rfl ct (Args.cons rfl ct Args.nil)) rfl rfl rfl rfl rfl ?_
 rintro g7 w7 f7
 have b47:=f5.below.step (f6.below.step f7.below)
 refine TW.ldS rfl (fun _ _ hv=>(hB2.next b47).fld hv) ?_
 refine TW.ldS rfl (fun _ _ hv=>(hB4.next b47).fld hv) ?_
 refine TW.buildSlice 110 _ rfl rfl rfl eo25 (Args.cons rfl ct (Args.cons rfl ct Args.nil)) rfl rfl rfl rfl rfl ?_
 rintro g8 w8 f8
 refine TW.build [0,2,4,5] _ (liV liX) rfl rfl rfl (Args.cons rfl ct (Args.cons rfl ct (Args.cons rfl ct (Args.cons rfl ct Args.nil)))) (by kernel_rfl) ?_
 refine TW.build [0,1,4,5] _ (liV liY) rfl rfl rfl (Args.cons rfl ct (Args.cons rfl ct (Args.cons rfl ct (Args.cons rfl ct Args.nil)))) (by kernel_rfl) ?_
 refine TW.buildSlice 113 _ rfl rfl rfl eo26 (Args.cons rfl ct (Args.cons rfl ct Args.nil)) rfl rfl rfl rfl rfl ?_
 rintro g9 w9 f9
 refine TW.build [0,1,2,3,4] _ [.slice (some ⟨g5,0,none⟩) 1 1,.slice (some ⟨g6,0,none⟩) 1 1,.slice (some ⟨g7,0,none⟩) 2 2,.slice (some ⟨g8,0,none⟩) 2 2,.slice (some ⟨g9,0,none⟩) 2 2,.slice none 0 0] rfl rfl rfl (Args.cons rfl ct (Args.cons rfl ct (Args.cons rfl ct (Args.cons rfl ct (Args.cons rfl ct Args.nil))))) (by kernel_rfl) ?_
 have b49:=b47.step (f8.below.step f9.below)
 have b59:=f6.below.step (f7.below.step (f8.below.step f9.below))
 refine TW.storeBlkF rfl rfl rfl (hB0.next b49) sz29 rfl rfl rfl ?_
 rintro w10 hB10 hbut10 hsz10
 refine rnT ?_
 have hlt4:=hB0.lt
 have s49:=b49.size
 have e5:=f5.blk.lt
 have n: ∀ {g:Nat} {t:TypeId} {cs:List Value},Blk w9 g t cs→w4.heap.size≤g→Blk w10 g t cs:=fun h hne=>Blk.keptO h hbut10 (fun e=>by cases e; omega)
 have a5:=f5.at_
 have a6:=f6.at_
 have a7:=f7.at_
 have a8:=f8.at_
 have a9:=f9.at_
 have z5:=f5.below.size
 have z6:=f6.below.size
 have z7:=f7.below.size
 have z8:=f8.below.size
 have c5:=n (f5.blk.next b59) (by omega)
 have c6:=n (f6.blk.next (f7.below.step (f8.below.step f9.below))) (by omega)
 have c7:=n (f7.blk.next (f8.below.step f9.below)) (by omega)
 have c8:=n (f8.blk.next f9.below) (by omega)
 have c9:=n f9.blk (by omega)
 have hw10:Blk w10 gw 4 [.bool true,.bool true,.bool true,.bool true,.bool true,.bool false,.bool false]:=Blk.keptO (hBw.next b49) hbut10 (fun e=>by cases e; have:=fA.at_; omega)
 have hI: ∀x:Int,-1000000≤x→x≤1000000→I64 x:=fun x=>i64_small
 refine retCS Tryz.results29 Tryz.underlying29 (by exact sz29) rfl (hB10) (⟨(hb4.step b49).grown hbut10 (hb4.step b49).size (fun q hq=>by cases hq; omega),⟨.slice (some ⟨g5,0,none⟩) 1 1,.slice (some ⟨g6,0,none⟩) 1 1,.slice (some ⟨g7,0,none⟩) 2 2,.slice (some ⟨g8,0,none⟩) 2 2,.slice (some ⟨g9,0,none⟩) 2 2,.slice none 0 0⟩,rfl,?_⟩)
 have hwk:SL boolT (fun k=>k<w10.heap.size) w10 (.slice (some ⟨gw,0,none⟩) 7 7) [true,true,true,true,true,false,false]:=litP (T:=boolT) (by decide) [([.bool true],true),([.bool true],true),([.bool true],true),([.bool true],true),([.bool true],true),([.bool false],false),([.bool false],false)] hw10 rfl (fun p hp=>by
  simp only [List.mem_cons,List.not_mem_nil,or_false] at hp
  rcases hp with rfl|rfl|rfl|rfl|rfl|rfl|rfl<;>rfl) (by simp)
 refine ⟨?_,?_,?_,?_,?_,SL.nil _ _ _⟩
 ·exact litP (T:=calT) (by decide) [([.int .i64 0,.slice (some ⟨gw,0,none⟩) 7 7,.slice none 0 0],⟨0,[true,true,true,true,true,false,false],[]⟩)] c5 rfl (fun p hp=>by
   rw [List.mem_singleton] at hp
   subst hp
   exact ⟨_,_,rfl,hI 0 (by omega) (by omega),hwk,SL.nil _ _ _⟩) (by simp)
 ·exact litP (T:=strT) (by decide) [([.string (bya 99)],bya 99)] c6 rfl (fun p hp=>by
   rw [List.mem_singleton] at hp
   subst hp
   exact ⟨rfl,s1 _⟩) (by simp)
 ·exact litP (T:=strT) (by decide) [([.string (bya 112)],bya 112),([.string (bya 113)],bya 113)] c7 rfl (fun p hp=>by
   simp only [List.mem_cons,List.not_mem_nil,or_false] at hp
   rcases hp with rfl|rfl<;>exact ⟨rfl,s1 _⟩) (by simp)
 ·exact litP (T:=ofT) (by decide) [([.string (bya 97),.int .i64 0,.int .i64 0,.int .i64 8,.int .i64 2,.int .i64 10,.slice none 0 0],ofA),([.string (bya 98),.int .i64 1,.int .i64 0,.int .i64 8,.int .i64 2,.int .i64 10,.slice none 0 0],ofB)] c8 rfl (fun p hp=>by
   simp only [List.mem_cons,List.not_mem_nil,or_false] at hp
   rcases hp with rfl|rfl<;>exact ⟨_,rfl,s1 _,hI _ (by decide) (by decide),hI 0 (by omega) (by omega),hI 8 (by omega) (by omega),hI 2 (by omega) (by omega),hI 10 (by omega) (by omega),SL.nil _ _ _⟩) (by simp)
 ·exact litP (T:=liT) (by decide) [(liV liX,liX),(liV liY,liY)] c9 rfl (fun p hp=>by
   simp only [List.mem_cons,List.not_mem_nil,or_false] at hp
   rcases hp with rfl|rfl
   ·exact ⟨rfl,s1 _,hI 0 (by omega) (by omega),hI 1 (by omega) (by omega),hI 0 (by omega) (by omega),hI 60 (by omega) (by omega),hI 1 (by omega) (by omega)⟩
   ·exact ⟨rfl,s1 _,hI 1 (by omega) (by omega),hI 0 (by omega) (by omega),hI 0 (by omega) (by omega),hI 60 (by omega) (by omega),hI 1 (by omega) (by omega)⟩) (by simp)
def sealB:ByteArray:=⟨#[67,48,46,49,50,48]⟩
theorem lab1 {n:UInt8} (h1:65≤n.toNat) (h2:n.toNat≤90):isLab (bya n):=by
 refine ⟨by show (1:Nat)≤1; decide,by show (1:Nat)≤20; decide,fun i hi=> ?_⟩
 have hsz:(bya n).size=1:=rfl
 have:i=0:=by omega
 subst this
 exact .inl ⟨h1,h2⟩
theorem labC:isLab sealB:=by
 refine ⟨by decide,by decide,fun i hi=> ?_⟩
 have hsz:sealB.size=6:=rfl
 have h6:i=0∨i=1∨i=2∨i=3∨i=4∨i=5:=by omega
 rcases h6 with rfl|rfl|rfl|rfl|rfl|rfl
 ·exact .inl ⟨by decide,by decide⟩
 ·exact .inr (.inl ⟨by decide,by decide⟩)
 ·exact .inr (.inr (by decide))
 ·exact .inr (.inl ⟨by decide,by decide⟩)
 ·exact .inr (.inl ⟨by decide,by decide⟩)
 ·exact .inr (.inl ⟨by decide,by decide⟩)
def docS (t:Int):Dc:=⟨sealB,0,1,t,2,sumS [1,leafS (bya 65),leafS (bya 66)],0,0⟩
def papS (t:Int):Pp:=⟨sgn [5,9] (docS t),bya 65,0,[leafS (bya 66)]⟩
theorem keys59:KeysOK [5,9]:=⟨by decide,by decide,by decide⟩
theorem docS_ok (h0:0≤t) (h1:t≤1000000):DocOK [5,9] (docS t):=⟨keys59,labC,by show (0:Int)≤0; decide,by show (0:Int)<((2:Nat):Int); decide,by show (0:Int)≤1; decide,by show (1:Int)<((2:Nat):Int); decide,h0,h1,by show (1:Int)≤2; decide,by show (2:Int)≤40; decide,sumS_rng _,by show remOK 0; decide,by show remOK 0; decide⟩
theorem papS_ver (h0:0≤t) (h1:t≤1000000):verS [5,9] (papS t)=0:=by
 have hb:=sumS_rng [0,labS (bya 66)]
 have hr:ProofOK (papS t):=by
  refine ⟨⟨Int.le_refl _,by show (1:Nat)≤20; decide,fun x hx=> ?_⟩,?_⟩
  ·have hx:x∈ [leafS (bya 66)]:=hx
   rw [List.mem_singleton] at hx
   subst hx
   unfold leafS
   omega
  ·show climbS (leafS (bya 65)) 0 [leafS (bya 66)]=sumS [1,leafS (bya 65),leafS (bya 66)]
   unfold climbS climbS
   rw [if_neg (by unfold leafS; omega),if_neg (by decide)]
 have h2:DocOK [5,9] (papS t).doc:=sgn_ok (docS_ok h0 h1)
 have h3:SignOK [5,9] (papS t).doc:=sgn_sign _ _
 have h4:PlaceOK (papS t):=⟨lab1 (by decide) (by decide),Int.le_refl _,by show (0:Int)<2; decide⟩
 rw [←ver_err,dec_pos h2,dec_pos h3,dec_pos h4,dec_pos hr]
 rfl
theorem lit_ab {t:TypeId} (h:Blk w g t [.string (bya 65),.string (bya 66)]):SL strT (fun k=>k<w.heap.size) w (.slice (some ⟨g,0,none⟩) 2 2) [bya 65,bya 66]:=litP (T:=strT) (by decide) [([.string (bya 65)],bya 65),([.string (bya 66)],bya 66)] h rfl (fun p hp=>by
 simp only [List.mem_cons,List.not_mem_nil,or_false] at hp
 rcases hp with rfl|rfl<;>exact ⟨rfl,s1 _⟩) (by simp)
theorem paper_c (h0:0≤t) (h1:t≤1000000):Gives Tryz.prog 32 #[.int .i64 t] w fun u w'=>Below w.heap.size w w'∧ ∃PA pc,u= .agg (ppV (papS t) (.slice PA 1 pc)).toArray∧SI w' (.slice PA 1 pc) [leafS (bya 66)]:=by
 refine gv (f:=32) ?_
 refine rnT ?_
 refine TW.alloc rfl rfl zc67 ?_
 rintro g2 w1 f1
 refine rnT ?_
 refine TW.buildSlice 3 _ rfl rfl rfl eo32 (Args.cons rfl ct (Args.cons rfl ct Args.nil)) rfl rfl rfl rfl rfl ?_
 rintro g8 w2 f2
 refine rnT ?_
 refine TW.buildSlice 9 _ rfl rfl rfl eo23 (Args.cons rfl ct (Args.cons rfl ct Args.nil)) rfl rfl rfl rfl rfl ?_
 rintro g10 w3 f3
 have hk:SI w3 (.slice (some ⟨g8,0,none⟩) 2 2) [5,9]:=lit_int _ (f2.blk.next f3.below) rfl (by decide) (by decide)
 refine TW.cl rfl (hwrite_c (x:=bya 65) (y:=bya 66) hk (lab1 (by decide) (by decide)) (lab1 (by decide) (by decide)) f3.blk (lit_ab f3.blk) (docS_ok h0 h1)) ?_
 rintro u w4 ⟨b4,rfl⟩
 refine rnT ?_
 refine TW.newVar rfl zc63 rfl sz63 rfl rfl ?_
 rintro g3 w5 f5
 refine rnT ?_
 refine TW.buildSlice 9 _ rfl rfl rfl eo23 (Args.cons rfl ct (Args.cons rfl ct Args.nil)) rfl rfl rfl rfl rfl ?_
 rintro g15 w6 f6
 refine TW.cl rfl (prove_c (x:=bya 65) (y:=bya 66) (lab1 (by decide) (by decide)) (lab1 (by decide) (by decide)) f6.blk (lit_ab f6.blk)) ?_
 rintro u w7 ⟨b7,PA,pc,rfl,hp7⟩
 refine rnT ?_
 refine TW.newVar rfl zc65 rfl sz65 rfl rfl ?_
 rintro g5 w8 f8
 refine rnT ?_
 refine TW.pk [0,2,3,5] rfl ?_
 have b68:=b7.step f8.below
 have hD8:=f5.blk.next (f6.below.step b68)
 have b18:=f2.below.step (f3.below.step (b4.step (f5.below.step (f6.below.step b68))))
 have hR8:=f1.blk.next b18
 have b08:=f1.below.step b18
 have q1:=f1.at_
 have e1:=f1.size
 refine TW.ldS rfl (fun _ _ hv=>hD8.fld hv) ?_
 refine TW.ldS rfl (fun _ _ hv=>f8.blk.fld hv) ?_
 refine TW.build [0,1,2] _ (ppV (papS t) (.slice PA 1 pc)) rfl rfl rfl (Args.cons rfl ct (Args.cons rfl ct (Args.cons rfl ct Args.nil))) (by kernel_rfl) ?_
 refine TW.storeBlkF rfl rfl rfl hR8 sz67 rfl rfl rfl ?_
 rintro wr hBr hbutr hszr
 refine rnT ?_
 refine retCS Tryz.results32 Tryz.underlying67 (by exact sz67) rfl (hBr) (⟨b08.grown hbutr b08.size (fun q hq=>by cases hq; omega),PA,pc,rfl,?_⟩)
 have hp8:=hp7.below f8.below
 have s16:=(f2.below.step (f3.below.step (b4.step (f5.below.step f6.below)))).size
 have s8:=f8.below.size
 exact (hp8.mono (Kept.of_blocks fun k hk hlt=>hbutr.block k hlt (fun e=>by cases e; omega))).wider fun k hk=>by have:=hbutr.size; omega
def clm (due:Int):Cl:=⟨bya 65,0,1,0,100,due,10⟩
theorem clm_ok {due:Int} (h:100≤due) (h1:due≤1000000):ClOK N0 (clm due):=⟨by show (0:Int)≤0; decide,by show (0:Int)<((2:Nat):Int); decide,by show (0:Int)≤1; decide,by show (1:Int)<((2:Nat):Int); decide,by show (0:Int)≤100; decide,h,h1,by show (1:Int)≤10; decide,by show (10:Int)≤1000000; decide⟩
theorem dec_one (hps:ps.length≤100):decS N0 d0 ev1 [[]] [5,9] ps (clm 150)=((1,if dec (Exc [5,9] ps (bya 65) 0 150)=true then -1 else 0),0):=by
 unfold decS
 rw [dec_pos (⟨sound0,fit1,rfl,clm_ok (by decide) (by decide)⟩:DecOK N0 d0 ev1 ([[]]:List (List Int)).length (clm 150)),if_neg (by simp),if_neg (by omega),if_neg (by simp)]
 unfold rulS
 rw [show reachS d0 ev1 [[]] (clm 150).to (clm 150).acc (clm 150).due=false from r150,if_pos rfl]
 show ((1,liabS (holdS N0 d0 ev1 [[]] 150) [5,9] ps (bya 65) 150),0)=_
 rw [h150]
 rfl
theorem exc_nil:dec (Exc [5,9] [] (bya 65) 0 150)=false:=dec_neg fun h=>by
 obtain ⟨p,hp,_⟩:=h.2
 cases hp
theorem exc_early {lab:ByteArray}:dec (Exc [5,9] [papS 140] lab 0 t)=dec (bya 65=lab∧140≤t):=dec_congr ⟨fun h=>by
 obtain ⟨p,hp,hf⟩:=h.2
 rw [List.mem_singleton] at hp
 subst hp
 exact ⟨hf.1,hf.2.2.2.1⟩,fun ⟨h1,h2⟩=>⟨by simp,papS 140,by simp,h1,rfl,by show (1:Int)≠0; decide,h2,papS_ver (by decide) (by decide)⟩⟩
theorem exc_late:dec (Exc [5,9] [papS 160] (bya 65) 0 150)=false:=dec_neg fun h=>by
 obtain ⟨p,hp,hf⟩:=h.2
 rw [List.mem_singleton] at hp
 subst hp
 have:(160:Int)≤150:=hf.2.2.2.1
 omega
theorem dec_open:decS N0 d0 ev1 [[]] [5,9] [] (clm 160)=((0,-1),0):=by
 unfold decS
 rw [dec_pos (⟨sound0,fit1,rfl,clm_ok (by decide) (by decide)⟩:DecOK N0 d0 ev1 ([[]]:List (List Int)).length (clm 160)),if_neg (by simp),if_neg (by simp),if_neg (by simp)]
 unfold rulS
 rw [show reachS d0 ev1 [[]] (clm 160).to (clm 160).acc (clm 160).due=true from r160,if_neg (by simp),show seenS ev1 [[]] (clm 160).to (clm 160).due=false from se1,if_neg (by simp)]
theorem dec_denied:decS N0 d0 ev2 [[]] [5,9] [] (clm 160)=((2,-1),0):=by
 unfold decS
 rw [dec_pos (⟨sound0,fit2,rfl,clm_ok (by decide) (by decide)⟩:DecOK N0 d0 ev2 ([[]]:List (List Int)).length (clm 160)),if_neg (by simp),if_neg (by simp),if_neg (by simp)]
 unfold rulS
 rw [show reachS d0 ev2 [[]] (clm 160).to (clm 160).acc (clm 160).due=true from q160,if_neg (by simp),show seenS ev2 [[]] (clm 160).to (clm 160).due=true from se2,if_pos rfl]
def clm0:Cl:=⟨⟨#[]⟩,0,1,0,0,0,1⟩
theorem dec_empty:decS N0 d0 ev1 [] [] [] clm0=((0,0),280):=by
 have h:DecOK N0 d0 ev1 ([]:List (List Int)).length clm0:=⟨sound0,⟨fit1.few,by decide,wfd0,fit1.each⟩,rfl,⟨by show (0:Int)≤0; decide,by show (0:Int)<((2:Nat):Int); decide,by show (0:Int)≤1; decide,by show (1:Int)<((2:Nat):Int); decide,by show (0:Int)≤0; decide,by show (0:Int)≤0; decide,by show (0:Int)≤1000000; decide,by show (1:Int)≤1; decide,by show (1:Int)≤1000000; decide⟩⟩
 unfold decS
 rw [dec_pos h,if_neg (by simp),if_neg (by simp),if_pos rfl]
theorem dist35_c (ht:Tabs w) (hN:NetAt w v N0):Gives Tryz.prog 30 #[.agg v.cells.toArray] w fun u w'=>Below w.heap.size w w'∧SD w' u d0:=(dist_c ht hN sound0.cons).mono fun u w' ⟨h1,h2⟩=>⟨h1,by rw [show N0.offs.length=2 from rfl,dist0] at h2; exact h2⟩
theorem ldecide_c {psv:Value} {due st op:Int} (ht:Tabs w) (hl:SE w lv l) (hps:SPp w psv ps) (hne: ∀e∈l,e.needs.length≤1000000) (hdue:I64 due) (hdec:decS N0 d0 l [[]] [5,9] ps (clm due)=((st,op),0)) :
  Gives Tryz.prog 31 #[lv,psv,.int .i64 due] w fun u w'=>Below w.heap.size w w'∧u= .agg #[.int .i64 st,.int .i64 op]:=by
 refine gv (f:=31) ?_
 refine rnT ?_
 refine TW.alloc rfl rfl zc42 ?_
 rintro g6 w1 f1
 refine rnT ?_
 refine TW.cl rfl (example_c) ?_
 rintro y w2 ⟨b2,v,rfl,hN2⟩
 have hone:(v.cells.all fun x=>x.oneCell')=true:=by
  obtain ⟨⟨A1,c1,e1⟩,⟨A2,c2,e2⟩,⟨A3,c3,e3⟩,⟨A4,c4,e4⟩,⟨A5,c5,e5⟩,⟨A6,c6,e6⟩⟩:=NetIn.form hN2
  simp only [NV.cells,e1,e2,e3,e4,e5,e6]
  rfl
 refine TW.newVar rfl zc29 rfl sz29 rfl hone ?_
 rintro g7 w3 f3
 refine rnT ?_
 refine CW.drawPlus [13] 15 mixed (by kernel_rfl) (fun _ _ d _ _ h=>by cases d<;>exact h) fun W5 hW5=> ?_
 refine RW.draw .weak 15 (by kernel_rfl) (by kernel_rfl) rfl rfl hW5 ?_
 have b03:=f1.below.step (b2.step f3.below)
 have hN3:=net_step hN2 f3.below
 have hB3:=f3.blk
 refine DW.ldS rfl (fun _ _ hv=>hB3.fld hv) ?_
 refine DW.ldS rfl (fun _ _ hv=>hB3.fld hv) ?_
 refine DW.cl (.pr (fun u W=>SD W u d0)) ?_ rfl (fun _ w' hb'=>dist35_c (ht.below (b03.step hb')) (net_step hN3 hb')) ?_
 ·exact fun _ _ _ hb h=>sd_step h hb
 refine rnD ?_
 refine DW.buildSlice 32 _ rfl rfl rfl eo30 (DArgs.cons rfl ct DArgs.nil) rfl rfl rfl rfl rfl ?_
 refine DW.buildSlice 3 _ rfl rfl rfl eo32 (DArgs.cons rfl ct (DArgs.cons rfl ct DArgs.nil)) rfl rfl rfl rfl rfl ?_
 refine rnD ?_
 refine DW.build [0,2,4] _ [.string (bya 65),.int .i64 0,.int .i64 1,.int .i64 0,.int .i64 100] rfl rfl rfl rfl (DArgs.cons rfl ct (DArgs.cons rfl ct (DArgs.cons rfl ct DArgs.nil))) (by kernel_rfl) ?_
 refine rnD ?_
 refine DW.build [0,1,2] _ (clV (clm due)) rfl rfl rfl rfl (DArgs.cons rfl ct (DArgs.cons rfl ct (DArgs.cons rfl ct DArgs.nil))) (by kernel_rfl) ?_
 refine DW.callP (.ex (.tuple #[.agg #[.int .i64 st,.int .i64 op],.int .i64 0])) (trivial) rfl rfl en13 rfl ct (PArgs.cons rfl ct (PArgs.cons rfl ct (PArgs.cons rfl ct (PArgs.cons rfl ct (PArgs.cons rfl ct (PArgs.cons rfl ct (PArgs.cons rfl ct PArgs.nil))))))) (fun _ w' hb' vs hs=> ?_) ?_
 ·obtain ⟨_,u,_,z1,z2,_,_,rfl,rfl,hu,rfl,⟨g1,rfl,hB1⟩,⟨g2,rfl,hB2⟩,rfl,rfl⟩:=Sats.seven hs
  have hu:SD w' u d0:=hu
  have b0':=b03.step hb'
  have hS:SD w' (.slice (some ⟨g1,0,none⟩) 1 1) [[]]:=lit_rows [(.slice none 0 0,[])] hB1 rfl (by simp; exact SL.nil _ _ _) (by simp)
  have hk:SI w' (.slice (some ⟨g2,0,none⟩) 2 2) [5,9]:=lit_int _ hB2 rfl (by decide) (by decide)
  refine (decide_c (c:=clm due) (ht.below b0') (net_step hN3 hb') hu (se_step hl b0') hS hk (spp_step hps b0') hne ⟨low_i64 (x:=0) (by decide),low_i64 (x:=1) (by decide),low_i64 (x:=0) (by decide),low_i64 (x:=100) (by decide),hdue,low_i64 (x:=10) (by decide)⟩).mono fun x w'' ⟨h1,h2⟩=>⟨h1,?_⟩
  rw [hdec] at h2
  exact h2
 refine rnD ?_
 refine DW.allocP rfl zc42 ?_
 refine DW.nil (DW.finX [0,1,2,6,7,23,24] [(0,_,_),(1,_,_),(2,_,_),(6,_,_),(7,_,_),(23,_,_),(24,_,_)] rfl [8] rfl fun vs w5 b5 hs5=>KW.rk' ?_)
 obtain ⟨v8,rfl,h8⟩:=Sats.one hs5
 obtain ⟨g8,rfl,hg8,hB8⟩:=h8
 refine RW.one (by kernel_rfl) (by kernel_rfl) rfl ?_
 refine TW.storeBlkF rfl rfl rfl hB8 sz42 rfl rfl rfl ?_
 rintro w6 hB6 hbut6 hsz6
 refine TW.nil (KW.pick [0,1,2,6,7,8,24] [(0,_,_),(1,_,_),(2,_,_),(6,_,_),(7,_,_),(8,_,_),(24,_,_)] rfl (KW.rk ?_))
 refine RW.one (by kernel_rfl) (by kernel_rfl) rfl ?_
 refine TW.v V.assign rfl ⟨ct,trivial⟩ (fun _=>trivial) ?_
 refine TW.nil (KW.pick [0,1,2,6,7,8,9] [(0,_,_),(1,_,_),(2,_,_),(6,_,_),(7,_,_),(8,_,_),(9,_,_)] rfl (KW.rk ?_))
 refine RW.end rfl (KW.pick [0,1,2,6,7,8,9] [(0,_,_),(1,_,_),(2,_,_),(6,_,_),(7,_,_),(8,_,_),(9,_,_)] rfl (KW.then_ ?_))
 refine rnT ?_
 refine CW.pk [0,1,2,6,7,8,9,26] rfl ?_
 have q1:=f1.at_
 have e1:=f1.size
 have s3:=(b2.step f3.below).size
 have s0:=b03.size
 have s5:=b5.size
 have hR5:=f1.blk.next ((b2.step f3.below).step b5)
 have hR6:=Blk.keptO hR5 hbut6 (fun e=>by cases e; omega)
 have b05:=b03.step b5
 have b06:Below w.heap.size w w6:=b05.grown hbut6 b05.size (fun q hq=>by cases hq; omega)
 refine CW.condP rfl (fun hz=> ?_) (fun hz=> ?_)
 ·exact absurd hz (by decide)
 refine rnT ?_
 refine TW.ldS rfl (fun _ _ hv=>hB6.fld hv) ?_
 refine TW.storeBlkF rfl rfl rfl hR6 sz42 rfl rfl rfl ?_
 rintro wr hBr hbutr hszr
 refine rnT ?_
 refine retCS Tryz.results31 Tryz.underlying42 (by exact sz42) rfl (hBr) (⟨b06.grown hbutr b06.size (fun q hq=>by cases hq; omega),rfl⟩)
theorem rints_c {v u:Value} {a b:List Int} {F G:Nat→Prop} (ha:SL intT F w v a) (hb:SL intT G w u b):Gives Tryz.prog 15 #[v,u] w fun x w'=>Below w.heap.size w w'∧x= .bool (decide (a=b)):=by
 obtain ⟨A,cap,rfl,_⟩:=ha.form
 obtain ⟨B,bcap,rfl,_⟩:=hb.form
 have hma:=ha.len.2.2
 have hmb:=hb.len.2.2
 refine gv (f:=15) ?_
 refine rnT ?_
 refine CW.condP rfl (fun hne=> ?_) (fun heq=> ?_)
 ·refine rnT ?_
  refine rt1 rfl ⟨Below.refl _ _,by rw [decide_eq_false fun h=>by rw [h] at hne; exact hne rfl]⟩
 have hl:a.length=b.length:=by omega
 refine rnT ?_
 refine CW.lp [0,1] (fun i:Nat=> [(5,none,.int .i64 (i:Int))])
  (fun i W=>i≤a.length∧Below w.heap.size w W∧a.take i=b.take i) (fun i=>a.length-i) 0 ⟨Nat.zero_le _,Below.refl _ _,by simp⟩ ?_
 rintro i W ⟨hi,hB,hall⟩
 refine rnT ?_
 refine CW.condP rfl (fun hlt=> ?_) (fun hge=> ?_)
 ·obtain ⟨x,hx,hxm⟩:=getx (l:=a) (k:=i) (by omega)
  obtain ⟨y,hy,hym⟩:=getx (l:=b) (k:=i) (by omega)
  have haW:=ha.below hB
  have hbW:=hb.below hB
  obtain ⟨ad,rfl⟩:=haW.addr (by omega)
  obtain ⟨bd,rfl⟩:=hbW.addr (by omega)
  refine rnT ?_
  refine CW.draw mixed (by kernel_rfl) ?_
  refine rnD ?_
  refine DW.ld rfl (haW.getI hx) ?_
  refine rnD ?_
  refine DW.ld rfl (hbW.getI hy) ?_
  refine rnD ?_
  refine DW.fi [0,1,5,25] rfl fun w2 b2=> ?_
  refine KW.then_ ?_
  refine CW.condP rfl (fun hne2=> ?_) (fun heq2=> ?_)
  ·refine rnT ?_
   refine rt1 rfl ⟨hB.step b2,by rw [decide_eq_false fun h=>by rw [h,hy] at hx; cases hx; exact hne2 rfl]⟩
  ·refine rnT ?_
   refine KW.rd (i+1) ⟨by omega,hB.step b2,?_⟩
   rw [List.take_add_one,List.take_add_one,hall,hx,hy,show x=y by omega]
 ·refine rnT ?_
  refine rt1 rfl ⟨hB,?_⟩
  rw [List.take_of_length_le (by omega),List.take_of_length_le (by omega)] at hall
  rw [decide_eq_true hall]
theorem lit_pp {e:TypeId} {A:Option Addr} {pc:Nat} (h0:0≤t) (h1:t≤1000000) (h:Blk w g e (ppV (papS t) (.slice A 1 pc))) (hp:SI w (.slice A 1 pc) [leafS (bya 66)]):SPp w (.slice (some ⟨g,0,none⟩) 1 1) [papS t]:=litP (T:=ppT) (by decide) [(ppV (papS t) (.slice A 1 pc),papS t)] h rfl (fun p hp'=>by
 rw [List.mem_singleton] at hp'
 subst hp'
 exact ⟨_,rfl,doc_dc (sgn_ok (docS_ok h0 h1)) (by decide),low_i64 (x:=0) (by decide),hp⟩) (by simp)
theorem head_c (ht:Tabs w):Gives Tryz.prog 10 #[] w fun u w'=>Below w.heap.size w w'∧u= .bool true:=by
 refine gv (f:=10) ?_
 refine rnT ?_
 refine TW.cl rfl (example_c) ?_
 rintro y w1 ⟨b1,v,rfl,hN1⟩
 have hone:(v.cells.all fun x=>x.oneCell')=true:=by
  obtain ⟨⟨A1,c1,e1⟩,⟨A2,c2,e2⟩,⟨A3,c3,e3⟩,⟨A4,c4,e4⟩,⟨A5,c5,e5⟩,⟨A6,c6,e6⟩⟩:=NetIn.form hN1
  simp only [NV.cells,e1,e2,e3,e4,e5,e6]
  rfl
 refine TW.newVar rfl zc29 rfl sz29 rfl hone ?_
 rintro g1 w2 f2
 refine rnT ?_
 have hN2:=net_step hN1 f2.below
 have b2:=b1.step f2.below
 have hB2:=f2.blk
 refine TW.ldS rfl (fun _ _ hv=>hB2.fld hv) ?_
 refine TW.cl rfl (dist35_c (ht.below b2) hN2) ?_
 rintro dv w3 ⟨b3,hd3⟩
 refine rnT ?_
 refine TW.buildSlice 3 _ rfl rfl rfl eo32 (Args.cons rfl ct Args.nil) rfl rfl rfl rfl rfl ?_
 rintro g4 w4 f4
 refine TW.build [1,2,3] _ [.int .i64 0,.int .i64 100,.int .i64 100,.slice (some ⟨g4,0,none⟩) 1 1] rfl rfl rfl (Args.cons rfl ct (Args.cons rfl ct (Args.cons rfl ct Args.nil))) (by kernel_rfl) ?_
 refine TW.buildSlice 60 _ rfl rfl rfl eo31 (Args.cons rfl ct Args.nil) rfl rfl rfl rfl rfl ?_
 rintro g5 w5 f5
 refine rnT ?_
 refine TW.pk [0,1,2,3] rfl ?_
 refine TW.buildSlice 3 _ rfl rfl rfl eo32 (Args.cons rfl ct Args.nil) rfl rfl rfl rfl rfl ?_
 rintro g6 w6 f6
 refine TW.build [0,1,2,3] _ [.int .i64 1,.int .i64 150,.int .i64 160,.slice (some ⟨g6,0,none⟩) 1 1] rfl rfl rfl (Args.cons rfl ct (Args.cons rfl ct (Args.cons rfl ct (Args.cons rfl ct Args.nil)))) (by kernel_rfl) ?_
 refine TW.buildSlice 60 _ rfl rfl rfl eo31 (Args.cons rfl ct Args.nil) rfl rfl rfl rfl rfl ?_
 rintro g7 w7 f7
 refine rnT ?_
 have b57:=f6.below.step f7.below
 have b47:=f5.below.step b57
 have h57:=f5.blk.next b57
 have hO7:OwnS w7 60 4 (.slice (some ⟨g7,0,none⟩) 1 1) 1 [.int .i64 1,.int .i64 150,.int .i64 160,.slice (some ⟨g6,0,none⟩) 1 1]:=OwnS.of_blk (n:=1) f7.blk rfl (by decide)
 refine TW.append [.int .i64 0,.int .i64 100,.int .i64 100,.slice (some ⟨g4,0,none⟩) 1 1] rfl rfl go31 rfl hO7 rfl rfl (fun j u hj=>⟨_,rfl,h57.fld hj⟩) (fun u hu=>by
  simp only [List.mem_cons,List.not_mem_nil,or_false] at hu
  rcases hu with rfl|rfl|rfl|rfl<;>rfl) (by decide) (by decide) ?_
 rintro v8 w8 hO8 hg8 hn8
 refine rnT ?_
 have a4:=f4.at_
 have a5:=f5.at_
 have a6:=f6.at_
 have a7:=f7.at_
 have z4:=f4.size
 have z5:=f5.size
 have z6:=f6.size
 have z7:=f7.size
 have hk8: ∀ {g:Nat} {t:TypeId} {cs:List Value},Blk w7 g t cs→g≠g7→Blk w8 g t cs:=fun h hne=>Blk.keptO h hg8 (fun e=>hne (by simp [Value.ownBlock] at e; omega))
 have b37:=f4.below.step b47
 have s23:=b3.size
 have b28:Below w2.heap.size w2 w8:=(b3.step b37).grown hg8 (b3.step b37).size (fun q hq=>by simp [Value.ownBlock] at hq; omega)
 have n0:SI w8 (.slice (some ⟨g4,0,none⟩) 1 1) [0]:=lit_int _ (hk8 (f4.blk.next b47) (by omega)) rfl (by decide) (by decide)
 have n1:SI w8 (.slice (some ⟨g6,0,none⟩) 1 1) [1]:=lit_int _ (hk8 (f6.blk.next f7.below) (by omega)) rfl (by decide) (by decide)
 have r0:evT.rep (fun k=>k<w8.heap.size) w8 [.int .i64 0,.int .i64 100,.int .i64 100,.slice (some ⟨g4,0,none⟩) 1 1] e0:=⟨_,rfl,low_i64 (x:=0) (by decide),low_i64 (x:=100) (by decide),low_i64 (x:=100) (by decide),n0⟩
 have r1:evT.rep (fun k=>k<w8.heap.size) w8 [.int .i64 1,.int .i64 150,.int .i64 160,.slice (some ⟨g6,0,none⟩) 1 1] e1:=⟨_,rfl,low_i64 (x:=1) (by decide),low_i64 (x:=150) (by decide),low_i64 (x:=160) (by decide),n1⟩
 have hE1:SE w8 (.slice (some ⟨g5,0,none⟩) 1 1) ev1:=litP (T:=evT) (by decide) [([.int .i64 0,.int .i64 100,.int .i64 100,.slice (some ⟨g4,0,none⟩) 1 1],e0)] (hk8 h57 (by omega)) rfl (fun p hp=>by
  rw [List.mem_singleton] at hp
  subst hp
  exact r0) (by simp)
 have hE2:SE w8 v8 ev2:=OwnS.toSLp (T:=evT) (F:=fun k=>k<w8.heap.size) [([.int .i64 1,.int .i64 150,.int .i64 160,.slice (some ⟨g6,0,none⟩) 1 1],e1),([.int .i64 0,.int .i64 100,.int .i64 100,.slice (some ⟨g4,0,none⟩) 1 1],e0)] (fun p hp=>by
  simp only [List.mem_cons,List.not_mem_nil,or_false] at hp
  rcases hp with rfl|rfl
  ·exact r1
  ·exact r0) (by decide) hO8 rfl (fun q hq=>hO8.lt hq) (by simp)
 refine TW.buildSlice 32 _ rfl rfl rfl eo30 (Args.cons rfl ct Args.nil) rfl rfl rfl rfl rfl ?_
 rintro g9 w9 f9
 refine rnT ?_
 have hS9:SD w9 (.slice (some ⟨g9,0,none⟩) 1 1) [[]]:=lit_rows [(.slice none 0 0,[])] f9.blk rfl (by simp; exact SL.nil _ _ _) (by simp)
 have b29:=b28.step f9.below
 have b9:=b2.step b29
 have ht9:=ht.below b9
 have hN9:=net_step hN2 b29
 have hd9:SD w9 dv d0:=by
  have q38:Below w3.heap.size w3 w8:=b37.grown hg8 b37.size (fun q hq=>by simp [Value.ownBlock] at hq; omega)
  exact sd_step hd3 (q38.step f9.below)
 have hE19:=se_step hE1 f9.below
 have hE29:=se_step hE2 f9.below
 have hB9:=hB2.next b29
 have ne1: ∀e∈ev1,e.needs.length≤1000000:=by decide
 have ne2: ∀e∈ev2,e.needs.length≤1000000:=by decide
 refine TW.cl rfl (ldecide_c (l:=ev1) (ps:= []) (st:=1) (op:=0) ht9 hE19 (SL.nil _ _ _) ne1 (low_i64 (by decide)) (by rw [dec_one (by decide),exc_nil]; rfl)) ?_
 rintro y w10 ⟨b10,rfl⟩
 have c10:=b10
 refine TW.build [0] _ [.int .i64 1,.int .i64 0] rfl rfl rfl (Args.cons rfl ct Args.nil) (by kernel_rfl) ?_
 refine TW.eqlT rfl rfl rfl ct rfl ct (by kernel_rfl) ?_
 refine rnT ?_
 refine TW.cl rfl (paper_c (t:=140) (by decide) (by decide)) ?_
 rintro y w11 ⟨b11,PA11,pc11,rfl,hp11⟩
 refine TW.buildSlice 67 _ rfl rfl rfl eo33 (Args.cons rfl ct Args.nil) rfl rfl rfl rfl rfl ?_
 rintro g11p w11p f11p
 have hP11:=lit_pp (by decide) (by decide) f11p.blk (hp11.step intT_now f11p.below)
 have c11:Below w9.heap.size w9 w11p:=(c10.step b11).step f11p.below
 refine TW.cl rfl (ldecide_c (l:=ev1) (ps:= [papS 140]) (st:=1) (op:= -1) (ht9.below c11) (se_step hE19 c11) hP11 ne1 (low_i64 (by decide)) (by rw [dec_one (by simp),exc_early,dec_pos ⟨rfl,by decide⟩]; rfl)) ?_
 rintro y w12 ⟨b12,rfl⟩
 have c12:=c11.step b12
 refine TW.build [0,1] _ [.int .i64 1,.int .i64 (-1)] rfl rfl rfl (Args.cons rfl ct (Args.cons rfl ct Args.nil)) (by kernel_rfl) ?_
 refine TW.eqlT rfl rfl rfl ct rfl ct (by kernel_rfl) ?_
 refine rnT ?_
 refine TW.cl rfl (paper_c (t:=160) (by decide) (by decide)) ?_
 rintro y w13 ⟨b13,PA13,pc13,rfl,hp13⟩
 refine TW.buildSlice 67 _ rfl rfl rfl eo33 (Args.cons rfl ct Args.nil) rfl rfl rfl rfl rfl ?_
 rintro g13p w13p f13p
 have hP13:=lit_pp (by decide) (by decide) f13p.blk (hp13.step intT_now f13p.below)
 have c13:Below w9.heap.size w9 w13p:=(c12.step b13).step f13p.below
 refine TW.cl rfl (ldecide_c (l:=ev1) (ps:= [papS 160]) (st:=1) (op:=0) (ht9.below c13) (se_step hE19 c13) hP13 ne1 (low_i64 (by decide)) (by rw [dec_one (by simp),exc_late]; rfl)) ?_
 rintro y w14 ⟨b14,rfl⟩
 have c14:=c13.step b14
 refine TW.build [0] _ [.int .i64 1,.int .i64 0] rfl rfl rfl (Args.cons rfl ct Args.nil) (by kernel_rfl) ?_
 refine TW.eqlT rfl rfl rfl ct rfl ct (by kernel_rfl) ?_
 refine rnT ?_
 refine TW.cl rfl (ldecide_c (l:=ev1) (ps:= []) (st:=0) (op:= -1) (ht9.below c14) (se_step hE19 c14) (SL.nil _ _ _) ne1 (low_i64 (by decide)) dec_open) ?_
 rintro y w15 ⟨b15,rfl⟩
 have c15:=c14.step b15
 refine TW.build [1] _ [.int .i64 0,.int .i64 (-1)] rfl rfl rfl (Args.cons rfl ct Args.nil) (by kernel_rfl) ?_
 refine TW.eqlT rfl rfl rfl ct rfl ct (by kernel_rfl) ?_
 refine rnT ?_
 refine TW.cl rfl (ldecide_c (l:=ev2) (ps:= []) (st:=2) (op:= -1) (ht9.below c15) (se_step hE29 c15) (SL.nil _ _ _) ne2 (low_i64 (by decide)) dec_denied) ?_
 rintro y w16 ⟨b16,rfl⟩
 have c16:=c15.step b16
 have hB16:=hB9.next c16
 refine TW.build [0,1] _ [.int .i64 2,.int .i64 (-1)] rfl rfl rfl (Args.cons rfl ct (Args.cons rfl ct Args.nil)) (by kernel_rfl) ?_
 refine TW.eqlT rfl rfl rfl ct rfl ct (by kernel_rfl) ?_
 refine rnT ?_
 refine TW.pk [0,1,2,3,4,5,6,7,8,9,10] rfl ?_
 refine TW.ldS rfl (fun _ _ hv=>hB16.fld hv) ?_
 refine rnT ?_
 refine TW.build [2] _ [.string ⟨#[]⟩,.int .i64 0,.int .i64 1,.int .i64 0,.int .i64 0] rfl rfl rfl (Args.cons rfl ct Args.nil) (by kernel_rfl) ?_
 refine TW.build [0,2] _ (clV clm0) rfl rfl rfl (Args.cons rfl ct (Args.cons rfl ct Args.nil)) (by kernel_rfl) ?_
 refine TW.cl rfl (decide_c (ws:= []) (ks:= []) (ps:= []) (c:=clm0) (F:=fun _=>True) (ht9.below c16) (net_step hN9 c16) (sd_step hd9 c16) (se_step hE19 c16) (SL.nil _ _ _) (SL.nil _ _ _) (SL.nil _ _ _) ne1 ⟨low_i64 (x:=0) (by decide),low_i64 (x:=1) (by decide),low_i64 (x:=0) (by decide),low_i64 (x:=0) (by decide),low_i64 (x:=0) (by decide),low_i64 (x:=1) (by decide)⟩) ?_
 rintro y w17 ⟨b17,rfl⟩
 rw [dec_empty]
 have c17:=c16.step b17
 refine rnT ?_
 refine TW.newVar rfl zc42 rfl sz42 rfl rfl ?_
 rintro g18 w18 f18
 refine rnT ?_
 have c18:=c17.step f18.below
 refine TW.cl rfl (fit_c (sd_step hd9 c18) (se_step hE19 c18)) ?_
 rintro y w19 ⟨b19,tv,rfl⟩
 rw [dec_pos fitted1]
 have c19:=c18.step b19
 refine rnT ?_
 refine TW.cl rfl (worlds_c (most:=0) (sd_step hd9 c19) (se_step hE19 c19) (by decide)) ?_
 rintro y w20 ⟨b20,wv,rfl,hw20⟩
 rw [werr1]
 rw [worlds1] at hw20
 obtain ⟨WA,wc,rfl,_⟩:=hw20.form
 have c20:=c19.step b20
 have hB20:=hB9.next c20
 refine TW.v V.move rfl ⟨ct,trivial⟩ (fun _=>trivial) ?_
 refine TW.v V.extract rfl ⟨ct,trivial⟩ (fun _=>rfl) ?_
 refine TW.v V.extract rfl ⟨ct,trivial⟩ (fun _=>rfl) ?_
 refine TW.v V.assign rfl ⟨ct,trivial⟩ (fun _=>trivial) ?_
 refine TW.v V.assign rfl ⟨ct,trivial⟩ (fun _=>trivial) ?_
 refine TW.nil (KW.pick [0,1,2,3,4,5,6,7,8,9,10,12,14,15,16] [(0,_,_),(1,_,_),(2,_,_),(3,_,_),(4,_,_),(5,_,_),(6,_,_),(7,_,_),(8,_,_),(9,_,_),(10,_,_),(12,_,_),(14,_,_),(15,_,_),(16,_,_)] rfl (KW.then_ ?_))
 refine CW.seq (CW.region ?_)
 refine TW.v V.move rfl ⟨ct,trivial⟩ (fun _=>trivial) ?_
 refine TW.v V.move rfl ⟨ct,trivial⟩ (fun _=>trivial) ?_
 refine TW.known rfl rfl ?_
 refine TW.v V.move rfl ⟨ct,trivial⟩ (fun _=>trivial) ?_
 refine TW.pickAnd rfl rfl rfl ct rfl pT ?_
 refine TW.v V.move rfl ⟨ct,trivial⟩ (fun _=>trivial) ?_
 refine TW.known rfl rfl ?_
 refine TW.v V.move rfl ⟨ct,trivial⟩ (fun _=>trivial) ?_
 refine TW.pickAnd rfl rfl rfl ct rfl pT ?_
 refine TW.v V.move rfl ⟨ct,trivial⟩ (fun _=>trivial) ?_
 refine TW.known rfl rfl ?_
 refine TW.v V.move rfl ⟨ct,trivial⟩ (fun _=>trivial) ?_
 refine TW.pickAnd rfl rfl rfl ct rfl pT ?_
 refine TW.v V.move rfl ⟨ct,trivial⟩ (fun _=>trivial) ?_
 refine TW.known rfl rfl ?_
 refine TW.v V.move rfl ⟨ct,trivial⟩ (fun _=>trivial) ?_
 refine TW.pickAnd rfl rfl rfl ct rfl pT ?_
 refine TW.v V.move rfl ⟨ct,trivial⟩ (fun _=>trivial) ?_
 refine TW.known rfl rfl ?_
 refine TW.v V.move rfl ⟨ct,trivial⟩ (fun _=>trivial) ?_
 refine TW.known rfl rfl ?_
 refine rnT ?_
 refine TW.known rfl rfl ?_
 refine TW.ldS rfl (fun _ _ hv=>hB20.fld hv) ?_
 refine TW.known rfl rfl ?_
 refine TW.v V.move rfl ⟨ct,trivial⟩ (fun _=>trivial) ?_
 refine TW.known rfl rfl ?_
 refine TW.v V.move rfl ⟨ct,trivial⟩ (fun _=>trivial) ?_
 refine TW.known rfl rfl ?_
 refine rnT ?_
 refine TW.known rfl rfl ?_
 refine TW.cl rfl (holders_c (ht9.below c20) (net_step hN9 c20) (sd_step hd9 c20) (se_step hE19 c20) (sd_step hS9 c20) ne1) ?_
 rintro y w21 ⟨b21,h21⟩
 rw [h150] at h21
 have c21:=c20.step b21
 refine TW.known rfl rfl ?_
 refine TW.buildSlice 3 _ rfl rfl rfl eo32 (Args.cons rfl ct Args.nil) rfl rfl rfl rfl rfl ?_
 rintro g22 w22 f22
 refine TW.known rfl rfl ?_
 have c22:=c21.step f22.below
 refine TW.cl rfl (rints_c (h21.below f22.below) (lit_int [0] f22.blk rfl (by decide) (by decide))) ?_
 rintro y w23 ⟨b23,rfl⟩
 have c23:=c22.step b23
 have hB23:=hB9.next c23
 refine rnT ?_
 refine TW.known rfl rfl ?_
 refine TW.ldS rfl (fun _ _ hv=>hB23.fld hv) ?_
 refine TW.known rfl rfl ?_
 refine TW.v V.move rfl ⟨ct,trivial⟩ (fun _=>trivial) ?_
 refine TW.known rfl rfl ?_
 refine TW.v V.move rfl ⟨ct,trivial⟩ (fun _=>trivial) ?_
 refine TW.known rfl rfl ?_
 refine rnT ?_
 refine TW.known rfl rfl ?_
 refine TW.cl rfl (holders_c (ht9.below c23) (net_step hN9 c23) (sd_step hd9 c23) (se_step hE19 c23) (sd_step hS9 c23) ne1) ?_
 rintro y w24 ⟨b24,h24⟩
 rw [h160] at h24
 have c24:=c23.step b24
 refine TW.known rfl rfl ?_
 refine TW.buildSlice 3 _ rfl rfl rfl eo32 (Args.cons rfl ct (Args.cons rfl ct Args.nil)) rfl rfl rfl rfl rfl ?_
 rintro g25 w25 f25
 refine TW.known rfl rfl ?_
 have c25:=c24.step f25.below
 refine TW.cl rfl (rints_c (h24.below f25.below) (lit_int [0,1] f25.blk rfl (by decide) (by decide))) ?_
 rintro y w26 ⟨b26,rfl⟩
 have c26:=c25.step b26
 refine rnT ?_
 refine TW.known rfl rfl ?_
 refine TW.buildSlice 3 _ rfl rfl rfl eo32 (Args.cons rfl ct (Args.cons rfl ct Args.nil)) rfl rfl rfl rfl rfl ?_
 rintro g27 w27 f27
 refine TW.known rfl rfl ?_
 have c27:=c26.step f27.below
 refine TW.cl rfl (paper_c (t:=140) (by decide) (by decide)) ?_
 rintro y w28 ⟨b28',PA28,pc28,rfl,hp28⟩
 refine TW.known rfl rfl ?_
 refine TW.buildSlice 67 _ rfl rfl rfl eo33 (Args.cons rfl ct Args.nil) rfl rfl rfl rfl rfl ?_
 rintro g29 w29 f29
 refine TW.known rfl rfl ?_
 have hP29:=lit_pp (by decide) (by decide) f29.blk (hp28.step intT_now f29.below)
 have c29:=(c27.step b28').step f29.below
 refine TW.cl rfl (excused_c (lab:=bya 65) (lit_int [5,9] (f27.blk.next (b28'.step f29.below)) rfl (by decide) (by decide)) hP29) ?_
 rintro y w30 ⟨b30,rfl⟩
 rw [exc_early,dec_pos (p:=bya 65=bya 65∧(140:Int)≤140) ⟨rfl,by decide⟩]
 have c30:=c29.step b30
 refine rnT ?_
 refine TW.known rfl rfl ?_
 refine TW.buildSlice 3 _ rfl rfl rfl eo32 (Args.cons rfl ct (Args.cons rfl ct Args.nil)) rfl rfl rfl rfl rfl ?_
 rintro g31 w31 f31
 refine TW.known rfl rfl ?_
 have c31:=c30.step f31.below
 refine TW.cl rfl (paper_c (t:=140) (by decide) (by decide)) ?_
 rintro y w32 ⟨b32,PA32,pc32,rfl,hp32⟩
 refine TW.known rfl rfl ?_
 refine TW.buildSlice 67 _ rfl rfl rfl eo33 (Args.cons rfl ct Args.nil) rfl rfl rfl rfl rfl ?_
 rintro g33 w33 f33
 refine TW.known rfl rfl ?_
 have hP33:=lit_pp (by decide) (by decide) f33.blk (hp32.step intT_now f33.below)
 have c33:=(c31.step b32).step f33.below
 refine TW.cl rfl (excused_c (lab:=bya 66) (lit_int [5,9] (f31.blk.next (b32.step f33.below)) rfl (by decide) (by decide)) hP33) ?_
 rintro y w34 ⟨b34,rfl⟩
 rw [exc_early,dec_neg (p:=bya 65=bya 66∧(140:Int)≤140) (fun h=>bya_ne (by decide) h.1)]
 have c34:=c33.step b34
 refine TW.known rfl rfl ?_
 refine TW.v V.not rfl ⟨ct,trivial⟩ (fun _=>trivial) ?_
 refine TW.pickAnd rfl rfl rfl ct rfl pT ?_
 refine TW.v V.move rfl ⟨ct,trivial⟩ (fun _=>trivial) ?_
 refine TW.known rfl rfl ?_
 refine TW.v V.move rfl ⟨ct,trivial⟩ (fun _=>trivial) ?_
 refine TW.pickAnd rfl rfl rfl ct rfl pT ?_
 refine TW.v V.move rfl ⟨ct,trivial⟩ (fun _=>trivial) ?_
 refine TW.known rfl rfl ?_
 refine TW.v V.move rfl ⟨ct,trivial⟩ (fun _=>trivial) ?_
 refine TW.known rfl rfl ?_
 refine TW.v V.eql rfl ⟨ct,ct,trivial⟩ (fun _=>trivial) ?_
 refine TW.pickAnd rfl rfl rfl ct rfl pT ?_
 refine TW.v V.move rfl ⟨ct,trivial⟩ (fun _=>trivial) ?_
 refine TW.known rfl rfl ?_
 refine TW.v V.move rfl ⟨ct,trivial⟩ (fun _=>trivial) ?_
 refine TW.known rfl rfl ?_
 refine TW.v V.lenSlice rfl ⟨ct,trivial⟩ (fun _=>trivial) ?_
 refine TW.known rfl rfl ?_
 refine TW.v V.eql rfl ⟨ct,ct,trivial⟩ (fun _=>trivial) ?_
 refine TW.pickAnd rfl rfl rfl ct rfl pT ?_
 refine TW.v V.move rfl ⟨ct,trivial⟩ (fun _=>trivial) ?_
 refine TW.known rfl rfl ?_
 refine TW.v V.move rfl ⟨ct,trivial⟩ (fun _=>trivial) ?_
 refine TW.known rfl rfl ?_
 refine TW.v V.move rfl ⟨ct,trivial⟩ (fun _=>trivial) ?_
 refine TW.known rfl rfl ?_
 refine rnT ?_
 refine TW.known rfl rfl ?_
 refine TW.cl rfl (reach_c (sd_step hd9 c34) (se_step hE19 c34) (sd_step hS9 c34) ne1 ⟨low_i64 (x:=1) (by decide),low_i64 (x:=100) (by decide),low_i64 (x:=160) (by decide)⟩) ?_
 rintro y w35 ⟨b35,rfl⟩
 rw [r160]
 refine rnT ?_
 refine rt1 rfl ⟨b9.step (c34.step b35),rfl⟩
structure FewK (ks:List Int) (ps:List Pp):Prop where
 k:ks.length≤10
 p:ps.length≤12
 each: ∀p∈ps,p.path.length≤30∧p.label.size≤40∧p.doc.sl.size≤40
theorem rfew35_c {kv psv:Value} {F:Nat→Prop} (hk:SL intT F w kv ks) (hps:SPp w psv ps):Gives Tryz.prog 12 #[kv,psv] w fun u w'=>Below w.heap.size w w'∧u= .bool (dec (FewK ks ps)):=by
 obtain ⟨KA,kc,rfl,_⟩:=hk.form
 obtain ⟨A,cap,rfl,_⟩:=hps.form
 have hmk:=hk.len.2.2
 have hmax:=hps.len.2.2
 refine gv (f:=12) ?_
 refine rnT ?_
 refine CW.lp [0,1] (fun i:Nat=> [(5,none,.int .i64 (i:Int))])
  (fun i W=>i≤ps.length∧Below w.heap.size w W∧ ∀p∈ps.take i,p.path.length≤30∧p.label.size≤40∧p.doc.sl.size≤40) (fun i=>ps.length-i) 0 ⟨Nat.zero_le _,Below.refl _ _,by simp⟩ ?_
 rintro i W ⟨hi,hB,hall⟩
 refine rnT ?_
 refine CW.condP rfl (fun hlt=> ?_) (fun hge=> ?_)
 ·obtain ⟨p,hp,hpm⟩:=getx (l:=ps) (k:=i) (by omega)
  have hW:=spp_step hps hB
  obtain ⟨ad,rfl⟩:=hW.addr (by omega)
  obtain ⟨pv,hcells,hd,hix,hpath⟩:=SPp.get hW hp
  obtain ⟨PA,pc,rfl,_⟩:=hpath.form
  refine rnT ?_
  refine TW.ld rfl (hcells 10 _ rfl) ?_
  refine rnT ?_
  refine TW.ld rfl (hcells 8 _ rfl) ?_
  refine rnT ?_
  refine TW.ld rfl (hcells 0 _ rfl) ?_
  refine rnT ?_
  refine CW.pk [0,1,5,38] rfl ?_
  refine CW.cond rfl (fun hbad=> ?_) (fun hgood=> ?_)
  ·refine rnT ?_
   refine rt1 rfl ⟨hB,?_⟩
   rw [dec_neg fun h=> ?_]
   have:=h.each p hpm
   simp at hbad
   omega
  ·refine rnT ?_
   refine KW.rd (i+1) ⟨by omega,hB,fun q hq=> ?_⟩
   rw [List.take_add_one,hp] at hq
   rcases List.mem_append.1 hq with hq|hq
   ·exact hall q hq
   ·simp at hq
    subst hq
    simp at hgood
    omega
 ·refine rnT ?_
  refine rt1 rfl ⟨hB,?_⟩
  rw [List.take_of_length_le (by omega)] at hall
  by_cases h:FewK ks ps
  ·rw [dec_pos h]
   have:=h.k
   have:=h.p
   simp
   omega
  ·rw [dec_neg h]
   have: ¬(ks.length≤10∧ps.length≤12):=fun q=>h ⟨q.1,q.2,hall⟩
   simp
   omega
theorem rwithin35_c {x n:Int}:Gives Tryz.prog 97 #[.int .i64 x,.int .i64 n] w fun u w'=>Below w.heap.size w w'∧u= .bool (decide (0≤x∧x<n)):=by
 refine gv (f:=97) ?_
 refine rnT ?_
 refine rt1 rfl ⟨Below.refl _ _,by simp⟩
theorem rclaim_c (hN:NetAt w v N):Gives Tryz.prog 45 #[.agg v.cells.toArray,.agg (clV c).toArray] w fun u w'=>Below w.heap.size w w'∧u= .bool (dec (ClOK N c)):=by
 have hform:=NetIn.form hN
 obtain ⟨vc,vn,vo,vf,vl,vk⟩:=v
 obtain ⟨⟨A1,c1,e1⟩,⟨A2,c2,e2⟩,⟨A3,c3,e3⟩,⟨A4,c4,e4⟩,⟨A5,c5,e5⟩,⟨A6,c6,e6⟩⟩:=id hform
 dsimp only at e1 e2 e3 e4 e5 e6
 subst e1 e2 e3 e4 e5 e6
 have hmax:=hN.f.len.2.2
 refine gv (f:=45) ?_
 refine rnT ?_
 refine TW.box rfl rfl rfl rfl ?_
 rintro g2 w1 f1
 refine TW.box rfl rfl rfl rfl ?_
 rintro g3 w2 f2
 refine rnT ?_
 have b2:=f1.below.step f2.below
 have hN2:=f1.blk.next f2.below
 have hC2:=f2.blk
 refine TW.ld rfl (hC2.fld (j:=1) rfl) ?_
 refine rnT ?_
 refine TW.ld rfl (hN2.fld (j:=3) rfl) ?_
 refine rnT ?_
 refine TW.cl rfl (rwithin35_c) ?_
 rintro y w3 ⟨b3,rfl⟩
 refine rnT ?_
 refine TW.ld rfl ((hC2.next b3).fld (j:=2) rfl) ?_
 refine rnT ?_
 refine TW.ld rfl ((hN2.next b3).fld (j:=3) rfl) ?_
 refine rnT ?_
 refine TW.callF (cap:= []) rfl rfl en97 rfl ct (Args.cons rfl id (Args.cons rfl id Args.nil)) (fun _=>rwithin35_c) ?_
 rintro w4 b4
 refine rnT ?_
 have hC4:=hC2.next (b3.step b4)
 refine TW.ld rfl (hC4.fld (j:=4) rfl) ?_
 refine rnT ?_
 refine TW.ld rfl (hC4.fld (j:=4) rfl) ?_
 refine rnT ?_
 refine TW.ld rfl (hC4.fld (j:=5) rfl) ?_
 refine rnT ?_
 refine TW.ld rfl (hC4.fld (j:=5) rfl) ?_
 refine rnT ?_
 refine TW.ld rfl (hC4.fld (j:=6) rfl) ?_
 refine rnT ?_
 refine TW.ld rfl (hC4.fld (j:=6) rfl) ?_
 refine rnT ?_
 refine rt1 rfl ⟨b2.step (b3.step b4),?_⟩
 by_cases h:ClOK N c
 ·rw [dec_pos h]
  obtain ⟨h1,h2,h3,h4,h5,h6,h7,h8,h9⟩:=h
  simp
  omega
 ·rw [dec_neg h,Value.bool.injEq,Bool.eq_false_iff]
  intro hq
  simp only [Bool.and_eq_true,decide_eq_true_eq] at hq
  exact h ⟨by omega,by omega,by omega,by omega,by omega,by omega,by omega,by omega,by omega⟩
structure RightP (N:Net) (d:Dist) (l:List Ev) (ws:List (List Int)) (c:Cl):Prop where
 light:LightP N d l ws
 sound:SoundOK keys11 N
 fit:FitW d l ws.length
 same:d.length=N.offs.length
 claim:ClOK N c
 lab:c.label.size≤40
theorem LightP.needs {N:Net} {d:Dist} {l:List Ev} {ws:List (List Int)} (h:LightP N d l ws): ∀e∈l,e.needs.length≤1000000:=fun e he=>by have:=h.few.nd e he; omega
theorem LightP.len (h:LightP N d l ws):l.length≤8:=by have:=h.few.fd.l1; omega
theorem RightP.dec (h:RightP N d l ws c):DecOK N d l ws.length c:=⟨h.sound,h.fit,h.same,h.claim⟩
theorem right_c {dv wv:Value} (hN:NetAt w v N) (hd:SD w dv d) (hl:SE w lv l) (hS:SD w wv ws) :
  Gives Tryz.prog 20 #[.agg v.cells.toArray,dv,lv,wv,.agg (clV c).toArray] w fun x w'=>Below w.heap.size w w'∧x= .bool (dec (RightP N d l ws c)):=by
 have hform:=NetIn.form hN
 obtain ⟨A,cap,rfl,hcap⟩:=hd.form
 obtain ⟨X,xcap,rfl,_⟩:=hS.form
 have hv: ∃A4 c4,v.f= .slice A4 N.offs.length c4:=hform.f
 obtain ⟨vc,vn,vo,vf,vl,vk⟩:=v
 obtain ⟨A4,c4,e4⟩:=hv
 dsimp only at e4
 subst e4
 refine gv (f:=20) ?_
 refine rnT ?_
 refine TW.box rfl rfl rfl rfl ?_
 rintro g5 w0 f0
 refine TW.box rfl rfl rfl rfl ?_
 rintro g9 w1 f1
 refine rnT ?_
 have hB1:=f0.blk.next f1.below
 have hC1:=f1.blk
 have b1:=f0.below.step f1.below
 refine TW.ldS rfl (fun _ _ hv=>hB1.fld hv) ?_
 refine rnT ?_
 refine TW.cl rfl (rlight_c (net_step hN b1) (sd_step hd b1) (se_step hl b1) (sd_step hS b1)) ?_
 rintro y w2 ⟨c2,rfl⟩
 have b2:=b1.step c2
 have hB2:=hB1.next c2
 refine rnT ?_
 refine TW.ldS rfl (fun _ _ hv=>hB2.fld hv) ?_
 refine TW.callF (cap:= []) rfl rfl en43 rfl ct (Args.cons rfl id Args.nil) (fun hG=>rsound_c (net_step hN b2) (FewR.few (LightP.net (dec_iff.1 hG)))) ?_
 rintro w3 c3
 refine rnT ?_
 have b3:=b2.step c3
 refine TW.callF (cap:= []) rfl rfl en44 rfl ct (Args.cons rfl id (Args.cons rfl id (Args.cons rfl id Args.nil))) (fun _=>rfitting_c (sd_step hd b3) (se_step hl b3)) ?_
 rintro w4 c4'
 refine rnT ?_
 have b4:=b3.step c4'
 have hB4:=(hB2.next c3).next c4'
 have hC4:=hC1.next (c2.step (c3.step c4'))
 refine TW.ld rfl (hB4.fld (j:=3) rfl) ?_
 refine rnT ?_
 refine TW.ldS rfl (fun _ _ hv=>hB4.fld hv) ?_
 refine TW.ldS rfl (fun _ _ hv=>hC4.fld hv) ?_
 refine TW.callF (cap:= []) rfl rfl en45 rfl ct (Args.cons rfl id (Args.cons rfl id Args.nil)) (fun _=>rclaim_c (c:=c) (net_step hN b4)) ?_
 rintro w5 c5
 refine rnT ?_
 have hC5:=hC4.next c5
 refine TW.ld rfl (hC5.fld (j:=0) rfl) ?_
 refine rnT ?_
 refine rt1 rfl ⟨b4.step c5,?_⟩
 congr 1
 by_cases hR:RightP N d l ws c
 ·rw [dec_pos hR,dec_pos hR.light,dec_pos hR.sound,dec_pos hR.fit,dec_pos hR.claim]
  have:=hR.same
  have:=hR.lab
  simp
  omega
 ·rw [dec_neg hR,Bool.eq_false_iff]
  intro hq
  simp only [Bool.and_eq_true,decide_eq_true_eq] at hq
  obtain ⟨⟨⟨⟨⟨h1,h2⟩,h3⟩,h4⟩,h5⟩,h6⟩:=hq
  exact hR ⟨dec_iff.1 h1,dec_iff.1 h2,dec_iff.1 h3,by omega,dec_iff.1 h5,by omega⟩
theorem dec_of (h:DecOK N d l ws.length c) (hp:ps.length≤100) (hw:ws≠ []):decS N d l ws ks ps c=(rulS N d l ws ks ps c,0):=by
 unfold decS
 rw [dec_pos h,if_neg (by simp),if_neg (by omega),if_neg hw]
theorem due_st {cl:Cl} (h1:cl.to=c.to) (h2:cl.acc=c.acc) (h3:c.due≤cl.due):((rulS N d l ws ks ps cl).1=1→(rulS N d l ws ks ps c).1=1)∧((rulS N d l ws ks ps c).1=2→(rulS N d l ws ks ps cl).1=2):=by
 refine ⟨fun h=> ?_,fun h=> ?_⟩
 ·rcases rul_st.1 h with ⟨_,h⟩|⟨h,_⟩|⟨h,_⟩
  ·refine rul_st.2 (.inl ⟨rfl,?_⟩)
   rw [h1,h2] at h
   cases hq:reachS d l ws c.to c.acc c.due with
   | false=>rfl
   | true=>rw [reach_wider h3 hq] at h; cases h
  ·omega
  ·omega
 ·rcases rul_st.1 h with ⟨h,_⟩|⟨_,hr,hs⟩|⟨h,_⟩
  ·omega
  ·exact rul_st.2 (.inr (.inl ⟨rfl,by rw [h1,h2]; exact reach_wider h3 hr,by rw [h1]; exact seen_later hs h3⟩))
  ·omega
theorem due_law {dv wv:Value} (m:Int) (hm:0≤m∧m≤65535) (hN:NetAt w v N) (hd:SD w dv d) (hl:SE w lv l) (hS:SD w wv ws) (hcI:ClI c) (ht:Tabs w) :
  Gives Tryz.prog 8 #[.agg v.cells.toArray,dv,lv,wv,.agg (clV c).toArray,.int .u16 m] w fun u w'=>Below w.heap.size w w'∧u= .bool true:=by
 have hone:(v.cells.all fun x=>x.oneCell')=true:=by
  obtain ⟨⟨A1,c1,e1⟩,⟨A2,c2,e2⟩,⟨A3,c3,e3⟩,⟨A4,c4,e4⟩,⟨A5,c5,e5⟩,⟨A6,c6,e6⟩⟩:=NetIn.form hN
  simp only [NV.cells,e1,e2,e3,e4,e5,e6]
  rfl
 obtain ⟨X,xcap,rfl,_⟩:=hS.form
 have hsm:=hS.len.2.2
 refine gv (f:=8) ?_
 refine rnT ?_
 refine TW.box rfl rfl rfl rfl ?_
 rintro g6 w1 f1
 refine TW.box rfl rfl rfl rfl ?_
 rintro g10 w2 f2
 refine rnT ?_
 have b2:=f1.below.step f2.below
 have hB2:=f1.blk.next f2.below
 have hC2:=f2.blk
 refine TW.cl rfl (head_c (ht.below b2)) ?_
 rintro y w3 ⟨c3,rfl⟩
 have b3:=b2.step c3
 have hB3:=hB2.next c3
 have hC3:=hC2.next c3
 refine rnT ?_
 refine TW.ldS rfl (fun _ _ hv=>hC3.fld hv) ?_
 refine TW.newVar rfl zc37 rfl sz37 rfl rfl ?_
 rintro g14 w4 f4
 refine rnT ?_
 have hC4:=hC3.next f4.below
 have hm1:IntKind.i64.wrap m=m:=wrap_fits (by omega)
 have hd1:=hcI.d.1
 have hd2:=hcI.d.2
 refine TW.ld rfl (hC4.fld (j:=5) rfl) ?_
 refine TW.v V.minI rfl ⟨ct,ct,trivial⟩ (fun _=>trivial) ?_
 refine rnT ?_
 rw [hm1]
 refine TW.storeFld (j:=5) rfl sz3 rfl rfl f4.blk (by show 5<7; decide) rfl ?_
 rintro w5 hL5 hbut5 hs5
 refine rnT ?_
 obtain ⟨cl,hcl⟩: ∃cl:Cl,cl= {c with due:=min c.due 1000000+m}:=⟨_,rfl⟩
 have hLe:(clV c).set 5 (.int .i64 (min c.due 1000000+m))=clV cl:=by rw [hcl]; rfl
 rw [hLe] at hL5
 have hclI:ClI cl:=by
  rw [hcl]
  exact ⟨hcI.f,hcI.t,hcI.k,hcI.a,⟨by show (-9223372036854775808:Int)≤min c.due 1000000+m; omega,by show min c.due 1000000+m≤(9223372036854775807:Int); omega⟩,hcI.m⟩
 have q4:=f4.at_
 have s3:=b3.size
 have b5:Below w.heap.size w w5:=(b3.step f4.below).grown hbut5 (b3.step f4.below).size (fun q hq=>by cases hq; omega)
 have hB5:=hbut5.blk (hB3.next f4.below) (by have:=hB3.lt; omega)
 have hC5:=hbut5.blk hC4 (by have:=hC3.lt; omega)
 refine TW.ldS rfl (fun _ _ hv=>hB5.fld hv) ?_
 refine rnT ?_
 refine TW.ldS rfl (fun _ _ hv=>hC5.fld hv) ?_
 refine TW.cl rfl (right_c (c:=c) (net_step hN b5) (sd_step hd b5) (se_step hl b5) (sd_step hS b5)) ?_
 rintro y w6 ⟨c6,rfl⟩
 have b6:=b5.step c6
 refine rnT ?_
 refine TW.ldS rfl (fun _ _ hv=>(hB5.next c6).fld hv) ?_
 refine rnT ?_
 refine TW.ldS rfl (fun _ _ hv=>(hL5.next c6).fld hv) ?_
 refine TW.callF (cap:= []) rfl rfl en20 rfl ct (Args.cons rfl id (Args.cons rfl id (Args.cons rfl id (Args.cons rfl id (Args.cons rfl id Args.nil))))) (fun _=>right_c (c:=cl) (net_step hN b6) (sd_step hd b6) (se_step hl b6) (sd_step hS b6)) ?_
 rintro w7 c7
 refine rnT ?_
 refine CW.pk [0,1,2,3,4,5,6,10,12,13,14,48] rfl ?_
 have c57:=c6.step c7
 have b7:=b6.step c7
 refine CW.cond rfl (fun hbad=> ?_) (fun hgood=> ?_)
 ·refine rnT ?_
  refine rt1 rfl ⟨b7,rfl⟩
 have hg:RightP N d l ws c∧RightP N d l ws cl∧ws≠ []:=by
  cases h1:dec (RightP N d l ws c) with
  | false=>rw [h1] at hgood; simp at hgood
  | true =>
   cases h2:dec (RightP N d l ws cl) with
   | false=>rw [h1,h2] at hgood; simp at hgood
   | true =>
    refine ⟨dec_iff.1 h1,dec_iff.1 h2,fun e=> ?_⟩
    rw [h1,h2,e] at hgood
    simp at hgood
 obtain ⟨hR,hRl,hne0⟩:=hg
 have hne:=hR.light.needs
 have hB7:=hB5.next c57
 have hC7:=hC5.next c57
 have hL7:=hL5.next c57
 refine rnT ?_
 refine TW.ldS rfl (fun _ _ hv=>hB7.fld hv) ?_
 refine rnT ?_
 refine TW.ldS rfl (fun _ _ hv=>hC7.fld hv) ?_
 refine TW.cl rfl (decide_c (ks:= []) (ps:= []) (F:=fun _=>True) (ht.below b7) (net_step hN b7) (sd_step hd b7) (se_step hl b7) (sd_step hS b7) (SL.nil _ _ _) (SL.nil _ _ _) hne hcI) ?_
 rintro y w8 ⟨c8,rfl⟩
 rw [dec_of hR.dec (by simp) hne0]
 have b8:=b7.step c8
 refine rnT ?_
 refine TW.newVar rfl zc42 rfl sz42 rfl rfl ?_
 rintro g15 w9 f9
 refine rnT ?_
 refine TW.pk [0,1,2,3,4,5,6,10,12,13,14,15,16] rfl ?_
 have c79:=c8.step f9.below
 have b9:=b8.step f9.below
 refine TW.ldS rfl (fun _ _ hv=>(hB7.next c79).fld hv) ?_
 refine rnT ?_
 refine TW.ldS rfl (fun _ _ hv=>(hL7.next c79).fld hv) ?_
 refine TW.cl rfl (decide_c (ks:= []) (ps:= []) (F:=fun _=>True) (ht.below b9) (net_step hN b9) (sd_step hd b9) (se_step hl b9) (sd_step hS b9) (SL.nil _ _ _) (SL.nil _ _ _) hne hclI) ?_
 rintro y w10 ⟨c10,rfl⟩
 rw [dec_of hRl.dec (by simp) hne0]
 have b10:=b9.step c10
 refine rnT ?_
 refine TW.newVar rfl zc42 rfl sz42 rfl rfl ?_
 rintro g17 w11 f11
 refine rnT ?_
 have b11:=b10.step f11.below
 have hA:=f9.blk.next (c10.step f11.below)
 have hZ:=f11.blk
 refine TW.ld rfl (hZ.fld (j:=0) rfl) ?_
 refine rnT ?_
 refine TW.ld rfl (hA.fld (j:=0) rfl) ?_
 refine rnT ?_
 refine TW.ld rfl (hA.fld (j:=0) rfl) ?_
 refine rnT ?_
 refine TW.ld rfl (hZ.fld (j:=0) rfl) ?_
 refine rnT ?_
 refine rt1 rfl ⟨b11,?_⟩
 have hdue:c.due≤cl.due:=by
  have:=hR.claim.d1
  rw [hcl]
  show c.due≤min c.due 1000000+m
  omega
 have hst:=due_st (N:=N) (d:=d) (l:=l) (ws:=ws) (ks:= []) (ps:= []) (c:=c) (cl:=cl) (by rw [hcl]) (by rw [hcl]) hdue
 have h1:=hst.1
 have h2:=hst.2
 dsimp only
 simp
 omega
end Go.Proofs.YtobaafdejnimkaaGreatDoor
namespace Go.PF
open Go.RowKit Go.ChangeShapes Go.WideShapes Go.ChangeAt
section
variable {H:Type} {enc:TypeId×Value→H} {P:Program}
def Opens {α:Type} (P:Program) (t:TypeId) (T:Ty α):Prop :=
 ∀ {H:Type} (enc:TypeId×Value→H) (w:World) (base:Nat) (spare:Nat→Bool) (held:Bool) (fuel:Nat) (cs:List Value) (x:DataW H×List MemPlace),DataW.trod enc P w base spare held fuel t cs=some x→ ∃a,T.rep (fun _=>True) w cs a
theorem Opens.slice {α:Type} {t e:TypeId} {T:Ty α} (ht:P.underlying t=some (.slice e)) (hn:P.cellsOf e=T.n) (h:Opens P e T):Opens P t (sliceT T):=by
 intro H enc w base spare held fuel cs x hx
 rcases Go.Deep.open_slice ht hx with ⟨rfl,_⟩|⟨a,len,cap,m,n,D,Pl,rfl,_,hl,hm,hmm,_,hi⟩
 ·exact ⟨[],_,rfl,SL.nil _ _ _⟩
 ·have hlm:len≤m:=by rw [hmm]; split<;>omega
  have hex: ∀i,i<len→ ∃y cs',T.rep (fun _=>True) w cs' y∧ ∀j u,cs'[j]?=some u→w.cell? ((a.add (i*T.n)).add j)=some u:=by
   intro i hil
   obtain ⟨cs',hc,htr⟩:=hi i (by omega)
   obtain ⟨y,hy⟩:=h enc w base spare held n cs' _ htr
   rw [hn] at hc
   obtain ⟨_,hcl,hat⟩:=World.cells?_some hc
   refine ⟨y,cs',hy,fun j u hj=> ?_⟩
   have hjl:j<T.n:=by rw [←hcl]; exact (List.getElem?_eq_some_iff.1 hj).1
   rw [hat j hjl,hj]
  let L:List α:=(List.range len).attach.map fun i=>Classical.choose (hex i.1 (List.mem_range.1 i.2))
  have hL:L.length=len:=by simp [L]
  refine ⟨L,_,rfl,some a,cap,by rw [hL],by omega,by rw [hL]; have:maxLen=9223372036854775807:=rfl; omega,?_⟩
  intro i y hy
  have hil:i<len:=by rw [←hL]; exact (List.getElem?_eq_some_iff.1 hy).1
  have e:y=Classical.choose (hex i hil):=by
   simp [L,hil] at hy
   exact hy.symm
  obtain ⟨cs',h1,h2⟩:=Classical.choose_spec (hex i hil)
  rw [←e] at h1
  exact ⟨a,cs',rfl,trivial,h2,h1⟩
theorem Opens.arg {α:Type} {t e:TypeId} {T:Ty α} {W:World} {b0:Nat} {v:Value} {d:DataW H} {ps:List MemPlace} (h:Opens P t (sliceT T)) (ht:P.underlying t=some (.slice e)) (hval:Value.okWide P W .any b0 t v) (hd:DataW.Trod enc P W 0 (fun _=>true) true t v d ps) :
  ∃ l,SL T (fun _=>True) W v l:=by
 obtain ⟨fuel,hf⟩:=hd
 obtain ⟨l,v',hv',hl⟩:=h enc W _ _ _ _ _ _ hf
 obtain ⟨a,len,cap,rfl⟩:=okWide_slice ht hval
 simp [Value.cells] at hv'
 subst hv'
 exact ⟨l,hl⟩
theorem Opens.argS {α:Type} {t:TypeId} {fs:Array Field} {T:Ty α} {W:World} {b0:Nat} {v:Value} {d:DataW H} {ps:List MemPlace} (h:Opens P t T) (ht:P.underlying t=some (.struct fs)) (hval:Value.okWide P W .any b0 t v) (hd:DataW.Trod enc P W 0 (fun _=>true) true t v d ps) :
  ∃ a cs,v= .agg cs.toArray∧T.rep (fun _=>True) W cs a:=by
 obtain ⟨fuel,hf⟩:=hd
 obtain ⟨a,ha⟩:=h enc W _ _ _ _ _ _ hf
 obtain ⟨cs,rfl,_⟩:=okWide_struct ht hval
 exact ⟨a,cs.toList,by simp,by simpa [Value.cells] using ha⟩
theorem stays_all (hl:laidOutB P=true) {W W':World} {sp:Nat→Bool}: ∀(ts:List TypeId) (vs:List Value) (ds:List (DataW H)) (ps:List MemPlace),(ts.all fun t=>P.readableRec t&&Nat.blt t P.types.size)=true→DataW.TrodAll enc P W 0 (fun _=>true) true ts vs ds ps →
  (∀p∈ps,W.sameAt W' p)→(∀p∈ps,sp p.block=true)→DataW.TrodAll enc P W' 0 sp true ts vs ds ps
 | [],[],[],ps,_,h,_,_=>h
 | t::ts,v::vs,d::ds,ps,ht,h,h1,h2=>by
  obtain ⟨p,q,hd,hr,rfl⟩:=h
  simp only [List.all_cons,Bool.and_eq_true] at ht
  refine ⟨p,q,WideElems.Trod_stays hl ht.1.1 (blt_iff.1 ht.1.2) hd (fun x hx=>h1 x (List.mem_append.2 (.inl hx))) (fun x hx=>h2 x (List.mem_append.2 (.inl hx))),?_,rfl⟩
  exact stays_all hl ts vs ds q ht.2 hr (fun x hx=>h1 x (List.mem_append.2 (.inr hx))) (fun x hx=>h2 x (List.mem_append.2 (.inr hx)))
 | [],[],_::_,_,_,h,_,_=>h.elim
 | [],_::_,_,_,_,h,_,_=>h.elim
 | _::_,[],_,_,_,h,_,_=>h.elim
 | _::_,_::_,[],_,_,h,_,_=>h.elim
theorem law_post {f:Func} {s:ChangeSpec} {apart fresh handsOn:Bool} {W W':World} {args:Array Value} {ds gs:List (DataW H)} {before:List MemPlace} {tb:TypeId} (hl:laidOutB P=true) (hW:DataW.Whole enc P f.params.toList s.vars apart W args.toList ds gs before) (hvars:s.vars= [])
  (hpar:(f.params.toList.all fun t=>P.readableRec t&&Nat.blt t P.types.size)=true) (hrt:f.resultTypes= #[tb]) (htb:P.underlying tb=some .bool) (hsr:(s.fn H (ds++gs)).results= [.lit (.bool true)]) (hsa:(s.fn H (ds++gs)).args=ds) (hsv:(s.fn H (ds++gs)).vars= [])
  (hb:Below W.heap.size W W'):s.post enc P f apart fresh handsOn false W args (.bool true) W':=by
 have hlt: ∀p∈before,p.block<W.heap.size:=fun p hp=>hW.lt p hp
 obtain ⟨p,q,hA,hV,hpq,hz,hn⟩:=id hW
 rw [hvars] at hV
 have hq:q= []:=by
  cases gs with
  | nil=>exact hV
  | cons g gs=>exact hV.elim
 subst hq
 rw [List.append_nil] at hpq
 subst hpq
 refine ⟨ds,gs,before,[],before,[],hW,?_,?_,?_,World.keptBut_mono (fun x hx=>⟨hx,.inr (.inl hx)⟩) (hb.frame (· ∈before)),fun h=>by cases h⟩
 ·rw [hsr,hrt]
  exact trodAll_mk1 ⟨1,by simp [DataW.trod,Value.cells,htb]⟩
 ·rw [hsa]
  exact stays_all hl _ _ _ _ hpar hA (fun x hx=>hb.same (hlt x hx)) (fun x hx=>by simpa using hlt x hx)
 ·rw [hsv,hvars]; rfl
theorem law_calls {f:Func} {k:FuncId} {s:ChangeSpec} {apart fresh handsOn:Bool} {W:World} {args:Array Value} {ds gs:List (DataW H)} {before:List MemPlace} {tb:TypeId} (hl:laidOutB P=true) (hW:DataW.Whole enc P f.params.toList s.vars apart W args.toList ds gs before) (hvars:s.vars= [])
  (hpar:(f.params.toList.all fun t=>P.readableRec t&&Nat.blt t P.types.size)=true) (hrt:f.resultTypes= #[tb]) (htb:P.underlying tb=some .bool) (hsr:(s.fn H (ds++gs)).results= [.lit (.bool true)]) (hsa:(s.fn H (ds++gs)).args=ds) (hsv:(s.fn H (ds++gs)).vars= [])
  (h:Gives P k args W fun u W'=>Below W.heap.size W W'∧u= .bool true):Calls P k args W fun e W'=> ∃v,e= .returned v∧s.post enc P f apart fresh handsOn false W args v W' :=
 h.mono fun u W' ⟨hb,hu⟩=>by
  subst hu
  exact law_post hl hW hvars hpar hrt htb hsr hsa hsv hb
end
end Go.PF
