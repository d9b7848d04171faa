/- Texts of this claim,joined. -/
import Derived.Test.YtffjgpoadfkjlaaGreatDoorQK
import Derived.Shelf.Sort.Plain
import Derived.Shelf.Slices.In.SortNone
import Derived.Test.YtffjgpoadfkjlaaGreatDoorProg
import Derived.Sort.OwnSortedInts
set_option linter.unusedSimpArgs false
set_option linter.unusedVariables false
set_option maxRecDepth 100000
set_option maxHeartbeats 4000000
namespace Go.Proofs.YtffjgpoadfkjlaaGreatDoor
open Go.PF Go.RowKit Go.Ord
attribute [local irreducible] TW CW KW DW
variable {w:World} {N:Net} {g i b kn a:Nat} {v:NV} {F:Nat→Prop} {s:_} {capn:List Value} {M:Tab12}
theorem ru1Cls_c {g8:Nat} {s:ByteArray} (ht:Tabs w) (hB:Blk w g8 138 [.func (.func kn) #[] capn.toArray]) (hen:enters Tryz.prog kn=true) (hn:NameF w kn capn i s) :
  Gives Tryz.prog 120 #[.int .i64 (i:Int),.pointer (some ⟨g8,0,none⟩)] w fun u w'=>Below w.heap.size w w'∧u= .int .i64 (res1 s):=by
 refine gv (f:=120) ?_
 refine rnT ?_
 refine TW.ld rfl (hB.cell 0) ?_
 refine rnT ?_
 refine TW.call0 rfl rfl hen rfl (Args.cons rfl ct Args.nil) (hn w (Below.refl _ _)) ?_
 rintro y1 w1 ⟨c1,rfl⟩
 refine TW.cl rfl (isName_c (ht.below c1)) ?_
 rintro y2 w2 ⟨c2,rfl⟩
 refine rnT ?_
 refine CW.cond rfl (fun h1=> ?_) (fun h2=> ?_)
 ·refine rnT ?_
  refine rt1 rfl ⟨c1.step c2,?_⟩
  unfold res1
  cases hq:dec (NameOK keys11 s) with
  | true=>rw [hq] at h1; simp at h1
  | false=>rfl
 ·refine rnT ?_
  refine rt1 rfl ⟨c1.step c2,?_⟩
  unfold res1
  cases hq:dec (NameOK keys11 s) with
  | true=>rfl
  | false=>rw [hq] at h2; simp at h2
theorem ru2Cls_c {g8:Nat} {nm:List ByteArray} {s:ByteArray} (hB:Blk w g8 138 [.func (.func kn) #[] capn.toArray]) (hen:enters Tryz.prog kn=true) (hn: ∀j x,nm[j]?=some x→NameF w kn capn j x) (hs:nm[i]?=some s) (hi:i≤1000000) :
  Gives Tryz.prog 121 #[.int .i64 (i:Int),.pointer (some ⟨g8,0,none⟩)] w fun u w'=>Below w.heap.size w w'∧u= .int .i64 (res2 nm i s):=by
 refine gv (f:=121) ?_
 refine rnT ?_
 refine CW.lp [0,1,5] (fun k:Nat=> [(6,none,.int .i64 (k:Int))])
  (fun k W=>k≤i∧Below w.heap.size w W∧s ∉ nm.take k) (fun k=>i-k) 0 ⟨Nat.zero_le _,Below.refl _ _,by simp⟩ ?_
 rintro k W ⟨hk,hW,hno⟩
 have hil:=(List.getElem?_eq_some_iff.1 hs).1
 refine rnT ?_
 refine CW.condP rfl (fun hlt=> ?_) (fun hge=> ?_)
 ·obtain ⟨x,hx,hxm⟩:=getx (l:=nm) (k:=k) (by omega)
  have hBW:=hB.next hW
  refine rnT ?_
  refine CW.draw mixed (by kernel_rfl) ?_
  refine DW.ld rfl (hBW.cell 0) ?_
  refine rnD ?_
  refine DW.call (.ex (.string x)) trivial rfl rfl hen rfl ct (DArgs.cons rfl ct DArgs.nil) (fun _ w' hb'=>hn k x hx w' (hW.step hb')) ?_
  refine DW.ld rfl (hBW.cell 0) ?_
  refine rnD ?_
  refine DW.call (.ex (.string s)) trivial rfl rfl hen rfl ct (DArgs.cons rfl ct DArgs.nil) (fun _ w' hb'=>hn i s hs w' (hW.step hb')) ?_
  refine rnD ?_
  rw [beqL]
  refine DW.fi [0,1,4,5,6,15] rfl fun w3 b3=> ?_
  refine KW.then_ ?_
  refine CW.cond rfl (fun heq=> ?_) (fun hne=> ?_)
  ·refine rnT ?_
   refine rt1 rfl ⟨hW.step b3,?_⟩
   have hxs:x=s:=of_decide_eq_true heq
   subst hxs
   unfold res2
   rw [dec_pos (List.mem_of_getElem? (i:=k) (by rw [List.getElem?_take_of_lt (by omega)]; exact hx))]
   rfl
  ·refine rnT ?_
   refine KW.rd (k+1) ⟨by omega,hW.step b3,fun h=> ?_⟩
   rw [List.take_add_one,hx] at h
   rcases List.mem_append.1 h with h|h
   ·exact hno h
   ·simp at h
    exact of_decide_eq_false hne h.symm
 ·refine rnT ?_
  refine rt1 rfl ⟨hW,?_⟩
  have:k=i:=by omega
  subst this
  unfold res2
  rw [dec_neg hno]
  rfl
theorem ru3Cls_c {g9 g7 kg:Nat} {capg:List Value} {v:Value} {l:List Cla} {x:Cla} {G:Cla→Prop} (hB9:Blk w g9 152 [.func (.func kg) #[] capg.toArray]) (hB7:Blk w g7 27 [v]) (hen:enters Tryz.prog kg=true) (hl:SL claT F w v l) (hx:l[i]?=some x)
 (hg: ∀cs W,Below w.heap.size w W→claT.rep F W cs x→Gives Tryz.prog kg (.agg cs.toArray::capg).toArray W fun u W'=>Below W.heap.size W W'∧u= .bool (dec (G x))) :
  Gives Tryz.prog 122 #[.int .i64 (i:Int),.pointer (some ⟨g9,0,none⟩),.pointer (some ⟨g7,0,none⟩)] w fun u w'=>Below w.heap.size w w'∧u= .int .i64 (res3 G x):=by
 obtain ⟨A,cap,rfl,_⟩:=hl.form
 have hil:=(List.getElem?_eq_some_iff.1 hx).1
 have hmax:=hl.len.2.2
 obtain ⟨ad,rfl⟩:=hl.addr (by omega)
 obtain ⟨ad',cs,e1,hF,hrep,hc⟩:=hl.at hx
 cases e1
 have hrep0:=hrep
 obtain ⟨rfl,zz⟩:=hrep
 refine gv (f:=122) ?_
 refine rnT ?_
 refine CW.draw mixed (by kernel_rfl) ?_
 refine DW.ld rfl (hB9.cell 0) ?_
 refine DW.ld rfl (hB7.cell 0) ?_
 refine rnD ?_
 refine DW.ldS rfl (hc) ?_
 refine DW.call (.ex (.bool (dec (G x)))) trivial rfl rfl hen rfl ct (DArgs.cons rfl ct DArgs.nil) (fun _ w' hb'=>hg _ w' hb' (claT.mono _ _ _ _ _ (Kept.of_below hb') hrep0)) ?_
 refine rnD ?_
 refine DW.fi [0,1,2,4,11] rfl fun w3 b3=> ?_
 refine KW.then_ ?_
 refine CW.cond rfl (fun h1=> ?_) (fun h2=> ?_)
 ·refine rnT ?_
  refine rt1 rfl ⟨b3,?_⟩
  unfold res3
  cases hq:dec (G x) with
  | true=>rw [hq] at h1; simp at h1
  | false=>rfl
 ·refine rnT ?_
  refine rt1 rfl ⟨b3,?_⟩
  unfold res3
  cases hq:dec (G x) with
  | true=>rfl
  | false=>rw [hq] at h2; simp at h2
theorem checkCls_c {kg lim:Nat} {kd:Int} {capg:List Value} {v:Value} {l:List Cla} {nm:List ByteArray} {G:Cla→Prop} (ht:Tabs w) (hl:SL claT F w v l) (hen:enters Tryz.prog kn=true) (heg:enters Tryz.prog kg=true) (hlim:lim≤1000)
 (hnl:nm.length=l.length) (hn: ∀j x,nm[j]?=some x→NameF w kn capn j x) (hg: ∀(i:Nat) (x:Cla),l[i]?=some x→ ∀cs W,Below w.heap.size w W→claT.rep F W cs x→Gives Tryz.prog kg (.agg cs.toArray::capg).toArray W fun u W'=>Below W.heap.size W W'∧u= .bool (dec (G x))) :
    Gives Tryz.prog 73 #[.int .i64 kd,.int .i64 (lim:Int),v,.func (.func kn) #[] capn.toArray,.func (.func kg) #[] capg.toArray] w fun u w'=>Below w.heap.size w w'∧ ∃n,FRow w' w.heap.size u n∧n≤lim+1∧(n=0↔KindOK keys11 lim nm l G):=by
  obtain ⟨A,cap,rfl,_⟩:=hl.form
  have hmax:=hl.len.2.2
  refine gv (f:=73) ?_
  refine rnT ?_
  refine TW.box rfl rfl rfl rfl ?_
  rintro g7 w7 f7
  refine TW.box rfl rfl rfl rfl ?_
  rintro g8 w8 f8
  refine TW.box rfl rfl rfl rfl ?_
  rintro g9 w9 f9
  refine rnT ?_
  refine TW.makeFunc rfl rfl (Args.cons rfl ct Args.nil) ?_
  refine TW.makeFunc rfl rfl (Args.cons rfl ct Args.nil) ?_
  refine TW.makeFunc rfl rfl (Args.cons rfl ct (Args.cons rfl ct Args.nil)) ?_
  have hB7:=(f7.blk.next f8.below).next f9.below
  have hB8:=f8.blk.next f9.below
  have hB9:=f9.blk
  have b9:=(f7.below.step f8.below).step f9.below
  refine TW.build [0,1,2] _ [.func (.func 120) #[] #[.pointer (some ⟨g8,0,none⟩)],.func (.func 121) #[] #[.pointer (some ⟨g8,0,none⟩)],.func (.func 122) #[] #[.pointer (some ⟨g9,0,none⟩),.pointer (some ⟨g7,0,none⟩)]] rfl rfl rfl (Args.cons rfl ct (Args.cons rfl ct (Args.cons rfl ct Args.nil))) (by kernel_rfl) ?_
  refine TW.newVar rfl zc172 rfl sz172 rfl rfl ?_
  rintro g11 w11 f11
  refine rnT ?_
  have hB7:=(hB7.next f11.below)
  have hB8:=(hB8.next f11.below)
  have hB9:=(hB9.next f11.below)
  have hB11:=f11.blk
  have b11:=b9.step f11.below
  refine TW.ld rfl (hB7.cell 0) ?_
  refine rnT ?_
  refine TW.v V.minI rfl ⟨ct,ct,trivial⟩ (fun _=>trivial) ?_
  refine rnT ?_
  refine CW.lp [0,1,7,11,24] (fun z:Nat×Value×Nat=> [(12,none,z.2.1),(25,none,.int .i64 (z.1:Int))])
    (fun z W=>z.1≤min l.length lim∧Below w11.heap.size w11 W∧FRow W w11.heap.size z.2.1 z.2.2∧z.2.2≤z.1∧(z.2.2=0↔ ∀j,j<z.1→GoodAt nm l G j)) (fun z=>min l.length lim-z.1) (0,.slice none 0 0,0) ⟨Nat.zero_le _,Below.refl _ _,FRow.nil _ _,Nat.le_refl _,⟨fun _ j hj=>by omega,fun _=>rfl⟩⟩ ?_
  rintro ⟨i,fv,n⟩ W ⟨hi,hW,⟨zs,hO,h2,h3⟩,hni,hgd⟩
  dsimp only at hi hO h3 hni hgd
  have hbW:=b11.step hW
  refine rnT ?_
  refine CW.pk [0,1,7,11,12,24,25,26] rfl ?_
  refine CW.condP rfl (fun hlt=> ?_) (fun hge=> ?_)
  · obtain ⟨x,hx,hxm⟩:=getx (l:=l) (k:=i) (by omega)
    obtain ⟨s,hs,hsm⟩:=getx (l:=nm) (k:=i) (by omega)
    have hB11W:=hB11.next hW
    refine rnT ?_
    refine TW.loadA _ rfl rfl Tryz.underlying172 sz172 rfl ct (fun _=>(fun _ _ hv=>hB11W.fld hv)) rfl ?_
    refine rnT ?_
    refine CW.lp [0,1,7,11,12,13,24,25,28] (fun k:Nat=> [(29,none,.int .i64 (k:Int))])
      (fun k W'=>k≤3∧Below W.heap.size W W'∧(0<k→res1 s=0)∧(1<k→res2 nm i s=0)∧(2<k→res3 G x=0)) (fun k=>3-k) 0 ⟨Nat.zero_le _,Below.refl _ _,fun h=>by omega,fun h=>by omega,fun h=>by omega⟩ ?_
    rintro k W' ⟨hk,hW',hr1,hr2,hr3⟩
    have hbW':=hbW.step hW'
    have hnW: ∀j y,nm[j]?=some y→NameF W' kn capn j y:=fun j y hj=>(hn j y hj).below hbW'
    have hB7':=hB7.next (hW.step hW')
    have hB8':=hB8.next (hW.step hW')
    have hB9':=hB9.next (hW.step hW')
    have hlW:=hl.below hbW'
    refine rnT ?_
    refine CW.condP rfl (fun hlt3=> ?_) (fun hge3=> ?_)
    · have hk3:k<3:=by omega
      refine CW.skip (KW.then_ (CW.seq (CW.block (CW.seq (CW.region ?_)))))
      obtain ⟨kf,cp,r,hkf,hen',hcl,z1,z2,z3⟩: ∃(kf:Nat) (cp:List Value) (r:Int),[Value.func (.func 120) #[] #[.pointer (some ⟨g8,0,none⟩)],.func (.func 121) #[] #[.pointer (some ⟨g8,0,none⟩)],.func (.func 122) #[] #[.pointer (some ⟨g9,0,none⟩),.pointer (some ⟨g7,0,none⟩)]][((k:Nat):Int).toNat]?=some (.func (.func kf) #[] cp.toArray)∧enters Tryz.prog kf=true∧Gives Tryz.prog kf (.int .i64 (i:Int)::cp).toArray W' (fun u w'=>Below W'.heap.size W' w'∧u= .int .i64 r)∧(k=0→r=res1 s)∧(k=1→r=res2 nm i s)∧(k=2→r=res3 G x):=by
        obtain rfl|rfl|rfl:k=0∨k=1∨k=2:=by omega
        · exact ⟨_,[_],_,rfl,en120,ru1Cls_c (ht.below hbW') hB8' hen (hnW i s hs),fun _=>rfl,fun h=>by omega,fun h=>by omega⟩
        · exact ⟨_,[_],_,rfl,en121,ru2Cls_c hB8' hen hnW hs (by omega),fun h=>by omega,fun _=>rfl,fun h=>by omega⟩
        · exact ⟨_,[_,_],_,rfl,en122,ru3Cls_c hB9' hB7' heg hlW hx (fun cs X hX hr=>hg i x hx cs X (hbW'.step hX) hr),fun h=>by omega,fun h=>by omega,fun _=>rfl⟩
      refine TW.indexV rfl rfl Tryz.underlying172 one171 sz171 rfl ct rfl ct (fun _=>by (try dsimp only); omega) (fun _=>hkf) ?_
      refine rnT ?_
      refine TW.call0 rfl rfl hen' rfl (Args.cons rfl ct Args.nil) (hcl) ?_
      rintro y1 w1 ⟨c1,rfl⟩
      refine rnT ?_
      refine CW.cond rfl (fun hne=> ?_) (fun heq=> ?_)
      · have hbad:r≠0:=by simpa using hne
        refine rnT ?_
        refine TW.build [0,1,2] _ [.int .i64 kd,.int .i64 (i:Int),.int .i64 r] rfl rfl rfl (Args.cons rfl ct (Args.cons rfl ct (Args.cons rfl ct Args.nil))) (by kernel_rfl) ?_
        refine TW.buildSlice 130 _ rfl rfl rfl eo82 (Args.cons rfl ct Args.nil) rfl rfl rfl rfl rfl ?_
        rintro g2 w2 f2
        have hW1:=(hW.step hW').step c1
        refine TW.append [.int .i64 kd,.int .i64 (i:Int),.int .i64 r] rfl rfl go82 rfl (((hO.below hW').below c1).below f2.below) rfl rfl (fun j u hj=>⟨_,rfl,f2.blk.fld hj⟩) (fun u hu=>by simp at hu; rcases hu with rfl|rfl|rfl<;>rfl) (by omega) (by omega) ?_
        rintro fv' w3 hO3 hg3 hn3
        refine rnT ?_
        have hW2:=hW1.step f2.below
        refine KW.rd (i+1,fv',n+1) ⟨by show i+1≤_; omega,hW2.grown hg3 hW2.size h3,FRow.app (w:=w2) h3 h2 (fun u hu=>by simp at hu; rcases hu with rfl|rfl|rfl<;>rfl) hO3 hn3 hW2.size,by show n+1≤i+1; omega,⟨fun h=>absurd h (Nat.succ_ne_zero n),fun h=> ?_⟩⟩
        obtain ⟨q1,q2,q3⟩:=(goodAt_iff hx hs).1 (h i (by show i<i+1; omega))
        exact absurd (show r = 0 by obtain h | h | h : k = 0 ∨ k = 1 ∨ k = 2 := by omega
                                    · rw [z1 h,q1]
                                    · rw [z2 h,q2]
                                    · rw [z3 h,q3]) hbad
      · have hgood:r=0:=by simpa using heq
        refine rnT ?_
        refine KW.rd (k+1) ⟨by omega,hW'.step c1,fun _=> ?_,fun _=> ?_,fun _=> ?_⟩
        · by_cases h:k=0
          · rw [←z1 h,hgood]
          · exact hr1 (by omega)
        · by_cases h:k=1
          · rw [←z2 h,hgood]
          · exact hr2 (by omega)
        · by_cases h:k=2
          · rw [←z3 h,hgood]
          · exact hr3 (by omega)
    · have hk3:k=3:=by omega
      subst hk3
      refine rnT ?_
      refine KW.rd (i+1,fv,n) ⟨by show i+1≤_; omega,hW.step hW',⟨zs,hO.below hW',h2,h3⟩,by show n≤i+1; omega,?_⟩
      show n=0↔ ∀j,j<i+1→GoodAt nm l G j
      rw [hgd]
      refine ⟨fun h j hj=> ?_,fun h j hj=>h j (by omega)⟩
      rcases Nat.lt_or_ge j i with h'|h'
      · exact h j h'
      · have:j=i:=by omega
        subst this
        exact (goodAt_iff hx hs).2 ⟨hr1 (by omega),hr2 (by omega),hr3 (by omega)⟩
  have hie:i=min l.length lim:=by omega
  have h3: ∀g,fv.ownBlock=some g→w.heap.size≤g:=fun g hg=>Nat.le_trans b11.size (h3 g hg)
  refine rnT ?_
  refine TW.ld rfl ((hB7.next hW).cell 0) ?_
  refine rnT ?_
  refine CW.pk [0,1,7,11,12,24,25,49] rfl ?_
  refine CW.condP rfl (fun hbig=> ?_) (fun hsmall=> ?_)
  · refine rnT ?_
    refine TW.build [0,1,2] _ [.int .i64 kd,.int .i64 (lim:Int),.int .i64 2] rfl rfl rfl (Args.cons rfl ct (Args.cons rfl ct (Args.cons rfl ct Args.nil))) (by kernel_rfl) ?_
    refine TW.buildSlice 130 _ rfl rfl rfl eo82 (Args.cons rfl ct Args.nil) rfl rfl rfl rfl rfl ?_
    rintro g2 w2 f2
    refine TW.append [.int .i64 kd,.int .i64 (lim:Int),.int .i64 2] rfl rfl go82 rfl (hO.below f2.below) rfl rfl (fun j u hj=>⟨_,rfl,f2.blk.fld hj⟩) (fun u hu=>by simp at hu; rcases hu with rfl|rfl|rfl<;>rfl) (by omega) (by omega) ?_
    rintro fv' w3 hO3 hg3 hn3
    refine rnT ?_
    have hb2:=hbW.step f2.below
    refine rt1 rfl ⟨hb2.grown hg3 hb2.size (fun q hq=>h3 q hq),n+1,FRow.app (w:=w2) h3 h2 (fun u hu=>by simp at hu; rcases hu with rfl|rfl|rfl<;>rfl) hO3 hn3 hb2.size,by omega,⟨fun h=>by omega,fun h=> ?_⟩⟩
    have:=h.few
    omega
  · refine rnT ?_
    refine rt1 rfl ⟨hbW,n,⟨zs,hO,h2,h3⟩,by omega,?_⟩
    rw [kind_iff hnl,hgd,hie]
    exact ⟨fun h=>⟨by omega,h⟩,fun h=>h.2⟩
def calNm (N:Net):List ByteArray:=(List.range N.cals.length).map fun i=>N.names.getD i ⟨#[]⟩
theorem calNm_eq (h:N.names.length=N.cals.length):calNm N=N.names:=by
 unfold calNm
 apply List.ext_getElem?
 intro i
 rw [List.getElem?_map]
 rcases Nat.lt_or_ge i N.cals.length with hi|hi
 ·rw [List.getElem?_range hi]
  simp [List.getD_eq_getElem?_getD,List.getElem?_eq_getElem (show i<N.names.length by omega)]
 ·rw [List.getElem?_eq_none (by simpa using hi),List.getElem?_eq_none (by omega)]
  rfl
theorem inc1_c (hB:Blk w g 29 v.cells) (hN:NetIn F w v N):Gives Tryz.prog 58 #[.int .i64 (i:Int),.pointer (some ⟨g,0,none⟩)] w fun u w'=>Below w.heap.size w w'∧u= .string (N.names.getD i ⟨#[]⟩):=by
 obtain ⟨vc,vn,vo,vf,vl,vk⟩:=v
 have hn:=hN.n
 obtain ⟨A,c,e,_⟩:=hn.form
 dsimp only at e
 subst e
 refine gv (f:=58) ?_
 refine rnT ?_
 refine TW.ld rfl (hB.fld rfl) ?_
 refine rnT ?_
 refine CW.condP rfl (fun hlt=> ?_) (fun hge=> ?_)
 ·obtain ⟨s,hs,_⟩:=getx (l:=N.names) (k:=i) (by omega)
  obtain ⟨ad,rfl⟩:=hn.addr (by omega)
  refine rnT ?_
  refine TW.ld rfl (hB.fld rfl) ?_
  refine rnT ?_
  refine TW.ld rfl (hn.getT hs) ?_
  refine rnT ?_
  refine rt1 rfl ⟨Below.refl _ _,by rw [List.getD_eq_getElem?_getD,hs]; rfl⟩
 ·refine rnT ?_
  refine rt1 rfl ⟨Below.refl _ _,by rw [List.getD_eq_getElem?_getD,List.getElem?_eq_none (by omega)]; rfl⟩
theorem inc2_c (hB:Blk w g 29 v.cells) (hN:NetIn F w v N) (hs:N.ops[i]?=some s):Gives Tryz.prog 61 #[.int .i64 (i:Int),.pointer (some ⟨g,0,none⟩)] w fun u w'=>Below w.heap.size w w'∧u= .string s:=by
 obtain ⟨vc,vn,vo,vf,vl,vk⟩:=v
 have hn:=hN.o
 obtain ⟨A,c,e,_⟩:=hn.form
 dsimp only at e
 subst e
 have hil:=(List.getElem?_eq_some_iff.1 hs).1
 obtain ⟨ad,rfl⟩:=hn.addr (by omega)
 obtain ⟨ad',cs,e1,hF,hrep,hc⟩:=hn.at hs
 cases e1
 obtain ⟨rfl,_⟩:=hrep
 refine gv (f:=61) ?_
 refine rnT ?_
 refine TW.ld rfl (hB.fld rfl) ?_
 refine rnT ?_
 refine TW.ld rfl (hc 0 _ rfl) ?_
 refine rnT ?_
 refine rt1 rfl ⟨Below.refl _ _,rfl⟩
theorem inc4_c (hB:Blk w g 29 v.cells) (hN:NetIn F w v N) (hs:N.offs[i]?=some s):Gives Tryz.prog 64 #[.int .i64 (i:Int),.pointer (some ⟨g,0,none⟩)] w fun u w'=>Below w.heap.size w w'∧u= .string s.name:=by
 obtain ⟨vc,vn,vo,vf,vl,vk⟩:=v
 have hn:=hN.f
 obtain ⟨A,c,e,_⟩:=hn.form
 dsimp only at e
 subst e
 have hil:=(List.getElem?_eq_some_iff.1 hs).1
 obtain ⟨ad,rfl⟩:=hn.addr (by omega)
 obtain ⟨ad',cs,e1,hF,hrep,hc⟩:=hn.at hs
 cases e1
 obtain ⟨zv,rfl,_⟩:=hrep
 refine gv (f:=64) ?_
 refine rnT ?_
 refine TW.ld rfl (hB.fld rfl) ?_
 refine rnT ?_
 refine TW.ld rfl (hc 0 _ rfl) ?_
 refine rnT ?_
 refine rt1 rfl ⟨Below.refl _ _,rfl⟩
theorem inc6_c (hB:Blk w g 29 v.cells) (hN:NetIn F w v N) (hs:N.lines[i]?=some s):Gives Tryz.prog 68 #[.int .i64 (i:Int),.pointer (some ⟨g,0,none⟩)] w fun u w'=>Below w.heap.size w w'∧u= .string s.name:=by
 obtain ⟨vc,vn,vo,vf,vl,vk⟩:=v
 have hn:=hN.l
 obtain ⟨A,c,e,_⟩:=hn.form
 dsimp only at e
 subst e
 have hil:=(List.getElem?_eq_some_iff.1 hs).1
 obtain ⟨ad,rfl⟩:=hn.addr (by omega)
 obtain ⟨ad',cs,e1,hF,hrep,hc⟩:=hn.at hs
 cases e1
 obtain ⟨rfl,_⟩:=hrep
 refine gv (f:=68) ?_
 refine rnT ?_
 refine TW.ld rfl (hB.fld rfl) ?_
 refine rnT ?_
 refine TW.ld rfl (hc 0 _ rfl) ?_
 refine rnT ?_
 refine rt1 rfl ⟨Below.refl _ _,rfl⟩
theorem inc8_c (hB:Blk w g 29 v.cells) (hN:NetIn F w v N) (hs:N.classes[i]?=some s):Gives Tryz.prog 72 #[.int .i64 (i:Int),.pointer (some ⟨g,0,none⟩)] w fun u w'=>Below w.heap.size w w'∧u= .string s.name:=by
 obtain ⟨vc,vn,vo,vf,vl,vk⟩:=v
 have hn:=hN.k
 obtain ⟨A,c,e,_⟩:=hn.form
 dsimp only at e
 subst e
 have hil:=(List.getElem?_eq_some_iff.1 hs).1
 obtain ⟨ad,rfl⟩:=hn.addr (by omega)
 obtain ⟨ad',cs,e1,hF,hrep,hc⟩:=hn.at hs
 cases e1
 obtain ⟨rfl,_⟩:=hrep
 refine gv (f:=72) ?_
 refine rnT ?_
 refine TW.ld rfl (hB.fld rfl) ?_
 refine rnT ?_
 refine TW.ld rfl (hc 0 _ rfl) ?_
 refine rnT ?_
 refine rt1 rfl ⟨Below.refl _ _,rfl⟩
theorem inc3_c {s:ByteArray}:Gives Tryz.prog 63 #[.agg [Value.string s].toArray] w fun u w'=>Below w.heap.size w w'∧u= .bool true:=by
 refine gv (f:=63) ?_
 refine rnT ?_
 refine TW.box rfl rfl rfl rfl ?_
 rintro g w1 f1
 refine rnT ?_
 refine rt1 rfl ⟨f1.below,rfl⟩
theorem inc5_c {ov:Value} {o:Of} (hB:Blk w g 29 v.cells) (hN:NVform v N) (h:OfIn F w ov o):Gives Tryz.prog 66 #[.agg (ofV o ov).toArray,.pointer (some ⟨g,0,none⟩)] w fun u w'=>Below w.heap.size w w'∧u= .bool (dec (OfOK N o)):=by
 obtain ⟨A,cap,rfl,_⟩:=h.cd.form
 obtain ⟨vc,vn,vo,vf,vl,vk⟩:=v
 obtain ⟨⟨A1,c1,e1⟩,⟨A2,c2,e2⟩,⟨A3,c3,e3⟩,⟨A4,c4,e4⟩,⟨A5,c5,e5⟩,⟨A6,c6,e6⟩⟩:=id hN
 dsimp only at e1 e2 e3 e4 e5 e6
 subst e1 e2 e3 e4 e5 e6
 refine gv (f:=66) ?_
 refine rnT ?_
 refine TW.box rfl rfl rfl rfl ?_
 rintro g2 w2 f2
 refine rnT ?_
 refine TW.ldS rfl (fun _ _ hv=>(hB.next f2.below).fld hv) ?_
 refine TW.ldS rfl (fun _ _ hv=>f2.blk.fld hv) ?_
 refine TW.cl rfl (goodOffice_c hN (h.below f2.below)) ?_
 rintro y3 w3 ⟨d3,rfl⟩
 refine rnT ?_
 refine rt1 rfl ⟨f2.below.step d3,rfl⟩
theorem inc7_c {l:Li} (hB:Blk w g 29 v.cells) (hN:NVform v N):Gives Tryz.prog 70 #[.agg (liV l).toArray,.pointer (some ⟨g,0,none⟩)] w fun u w'=>Below w.heap.size w w'∧u= .bool (dec (LiOK N l)):=by
 obtain ⟨vc,vn,vo,vf,vl,vk⟩:=v
 obtain ⟨⟨A1,c1,e1⟩,⟨A2,c2,e2⟩,⟨A3,c3,e3⟩,⟨A4,c4,e4⟩,⟨A5,c5,e5⟩,⟨A6,c6,e6⟩⟩:=id hN
 dsimp only at e1 e2 e3 e4 e5 e6
 subst e1 e2 e3 e4 e5 e6
 refine gv (f:=70) ?_
 refine rnT ?_
 refine TW.box rfl rfl rfl rfl ?_
 rintro g2 w2 f2
 refine rnT ?_
 refine TW.ldS rfl (fun _ _ hv=>(hB.next f2.below).fld hv) ?_
 refine TW.ldS rfl (fun _ _ hv=>f2.blk.fld hv) ?_
 refine TW.cl rfl (goodLine_c hN) ?_
 rintro y3 w3 ⟨d3,rfl⟩
 refine rnT ?_
 refine rt1 rfl ⟨f2.below.step d3,rfl⟩
theorem inc9_c {l:Cla}:Gives Tryz.prog 74 #[.agg (claV l).toArray] w fun u w'=>Below w.heap.size w w'∧u= .bool (dec (ClaOK l)):=by
 refine gv (f:=74) ?_
 refine rnT ?_
 refine TW.box rfl rfl rfl rfl ?_
 rintro g2 w2 f2
 refine rnT ?_
 refine TW.ld rfl (f2.blk.fld rfl) ?_
 refine TW.cl rfl (isMinute_c) ?_
 rintro y3 w3 ⟨d3,rfl⟩
 refine rnT ?_
 refine TW.ld rfl ((f2.blk.next d3).fld rfl) ?_
 refine TW.callF (cap:= []) rfl rfl en75 rfl ct (Args.cons rfl id Args.nil) (fun _=>isMinute_c) ?_
 rintro w4 d4
 refine rnT ?_
 refine rt1 rfl ⟨(f2.below.step d3).step d4,?_⟩
 by_cases hq:ClaOK l
 ·rw [dec_pos hq]
  have q1:=hq.c1
  have q2:=hq.c2
  have q3:=hq.d1
  have q4:=hq.d2
  simp [q1,q2,q3,q4]
 ·rw [dec_neg hq]
  have: ¬((0≤l.cut∧l.cut≤1439)∧0≤l.del∧l.del≤1439):=fun h=>hq ⟨h.1.1,h.1.2,h.2.1,h.2.2⟩
  congr 1
  simp only [Bool.and_eq_false_iff,decide_eq_false_iff_not]
  omega
theorem FRow.form {w:World} {b:Nat} {v:Value} {n:Nat} (h:FRow w b v n): ∃A c,v= .slice A n c:=by
 obtain ⟨zs,h1,_⟩:=h
 obtain ⟨A,c,e,_⟩:=h1.form
 exact ⟨A,c,e⟩
theorem FRow.apps {w':World} {n m:Nat} {v v':Value} {zs cs:List Value} (h3: ∀g,v.ownBlock=some g→b≤g) (h2: ∀u∈zs,u.oneCell'=true) (hc: ∀u∈cs,u.oneCell'=true) (hO:OwnS w' 130 3 v' (n+m) (zs++cs)) (hn:v'.ownBlock=v.ownBlock∨v'.ownBlock=some w.heap.size) (hb:b≤w.heap.size):FRow w' b v' (n+m) :=
 ⟨zs++cs,hO,fun u hu=>(List.mem_append.1 hu).elim (h2 u) (hc u),fun g hg=>by
  rcases hn with h|h
  ·exact h3 g (by rw [←h]; exact hg)
  ·rw [h] at hg; cases hg; exact hb⟩
theorem own_news {e:TypeId} {sz m:Nat} {A:Option Addr} {c:Nat} {zs:List Value} (h:OwnS w e sz (.slice A m c) m zs): ∀(j:Nat) (u:Value),zs[j]?=some u→ ∃ad,A=some ad∧w.cell? (ad.add j)=some u:=fun j u hu=>by
 obtain ⟨A',c',e1,_,_,h1⟩:=h.form
 simp only [Value.slice.injEq] at e1
 obtain ⟨rfl,_,_⟩:=e1
 obtain ⟨g,h2,_,h3,_⟩:=h1 j u hu
 exact ⟨_,h2,by rw [addr0]; exact h3⟩
theorem incon_c (ht:Tabs w) (hN:NetAt w v N):Gives Tryz.prog 32 #[.agg v.cells.toArray] w fun u w'=>Below w.heap.size w w'∧ ∃n,FRow w' w.heap.size u n∧n≤1000∧(n=0↔ConsOK keys11 N):=by
 have hform:=NetIn.form hN
 obtain ⟨vc,vn,vo,vf,vl,vk⟩:=v
 obtain ⟨⟨A1,c1,e1⟩,⟨A2,c2,e2⟩,⟨A3,c3,e3⟩,⟨A4,c4,e4⟩,⟨A5,c5,e5⟩,⟨A6,c6,e6⟩⟩:=id hform
 dsimp only at e1 e2 e3 e4 e5 e6
 subst e1 e2 e3 e4 e5 e6
 have m1:=hN.c.len.2.2
 have m2:=hN.n.len.2.2
 refine gv (f:=32) ?_
 refine rnT ?_
 refine TW.box rfl rfl rfl rfl ?_
 rintro g1 w1 f1
 refine rnT ?_
 have hB1:=f1.blk
 have hN1:=net_step hN f1.below
 refine TW.ld rfl (hB1.fld rfl) ?_
 refine rnT ?_
 refine TW.ld rfl (hB1.fld rfl) ?_
 refine rnT ?_
 refine CW.joinP (fun z:Value×Nat=> [(1,none,.pointer (some ⟨g1,0,none⟩)),(3,none,z.1)])
  (fun z W'=>Below w1.heap.size w1 W'∧FRow W' w1.heap.size z.1 z.2∧z.2≤1∧(z.2=0↔N.names.length=N.cals.length)) (fun hj=> ?_) (fun z W2 hJ=> ?_)
 ·skip
  refine CW.condP rfl (fun hne=> ?_) (fun heq=> ?_)
  ·refine rnT ?_
   refine TW.build [0,1,2] _ [.int .i64 1,.int .i64 (-1),.int .i64 1] rfl rfl rfl (Args.cons rfl ct (Args.cons rfl ct (Args.cons rfl ct Args.nil))) (by kernel_rfl) ?_
   refine TW.buildSlice 130 _ rfl rfl rfl eo82 (Args.cons rfl ct Args.nil) rfl rfl rfl rfl rfl ?_
   rintro g2 w2 f2
   refine TW.append [.int .i64 1,.int .i64 (-1),.int .i64 1] rfl rfl go82 rfl (OwnS.nil _ _ _) rfl rfl (fun j u hj=>⟨_,rfl,f2.blk.fld hj⟩) (fun u hu=>by simp at hu; rcases hu with rfl|rfl|rfl<;>rfl) (by omega) (by omega) ?_
   rintro fv' w3 hO3 hg3 hn3
   refine TW.v V.assign rfl ⟨ct,trivial⟩ (fun _=>trivial) ?_
   refine TW.nil (KW.pick [0,1,2,3] [(0,_,_),(1,_,_),(2,_,_),(3,_,_)] rfl (KW.then_ ?_))
   exact CW.pick [1,3] _ rfl (hj (fv',1) _ ⟨f2.below.grown hg3 f2.below.size (fun q hq=>by simp [Value.ownBlock] at hq),FRow.app (w:=w2) (fun g hg=>by simp [Value.ownBlock] at hg) (fun u hu=>by cases hu) (fun u hu=>by simp at hu; rcases hu with rfl|rfl|rfl<;>rfl) hO3 hn3 f2.below.size,Nat.le_refl _,⟨fun h=>absurd h (Nat.succ_ne_zero 0),fun h=>by omega⟩⟩)
  ·refine CW.skip (KW.then_ ?_)
   exact CW.pick [1,3] _ rfl (hj (.slice none 0 0,0) _ ⟨Below.refl _ _,FRow.nil _ _,Nat.zero_le _,⟨fun _=>by omega,fun _=>rfl⟩⟩)
 obtain ⟨fv,n⟩:=z
 obtain ⟨b2,⟨zs,hO,h2,h3⟩,hn1,hiff⟩:=hJ
 dsimp only at hO h3 hn1 hiff
 have hBx1:=hB1.next b2
 have hNx1:=net_step hN1 b2
 have htx1:=ht.below (f1.below.step b2)
 refine rnT ?_
 refine TW.makeFunc rfl rfl (Args.cons rfl ct Args.nil) ?_
 refine rnT ?_
 refine TW.ld rfl (hBx1.fld rfl) ?_
 refine rnT ?_
 have hnm1: ∀j s,(calNm N)[j]?=some s→NameF W2 58 [.pointer (some ⟨g1,0,none⟩)] j s:=fun j s hs W hW=>by
  have hj:j<N.cals.length:=by have:=(List.getElem?_eq_some_iff.1 hs).1; simpa [calNm] using this
  have e:N.names.getD j ⟨#[]⟩=s:=by
   unfold calNm at hs
   rw [List.getElem?_map,List.getElem?_range hj] at hs
   simpa using hs
  exact (inc1_c (hBx1.next hW) (hNx1.below hW)).mono fun u w' ⟨q1,q2⟩=>⟨q1,by rw [q2,e]⟩
 have hgd1: ∀(j:Nat) x,N.cals[j]?=some x→ ∀cs W,Below W2.heap.size W2 W→calT.rep (fun k=>k<W2.heap.size) W cs x→Gives Tryz.prog 60 (.agg cs.toArray:: []).toArray W fun u W'=>Below W.heap.size W W'∧u= .bool (dec (CalOK x)):=fun j x hx cs W hW hr=>by
  obtain ⟨u,u2,rfl,q1,q2,q3⟩:=hr
  exact calValid_c (u:=u) (v:=u2) ⟨q1,q2,q3⟩
 refine TW.cl rfl (checkCal_c (capn:= [.pointer (some ⟨g1,0,none⟩)]) (capg:= []) (lim:=6) (nm:=calNm N) (G:=CalOK) htx1 hNx1.c en58 en60 (by decide) (by simp [calNm]) hnm1 hgd1) ?_
 rintro y1 w31 ⟨d1,n1,⟨zs1,hO1,k21,k31⟩,hle1,hiff1⟩
 obtain ⟨Y1,yc1,hy1,_⟩:=hO1.form
 subst hy1
 refine TW.append zs1 rfl rfl go82 rfl (hO.below d1) rfl hO1.1 (own_news hO1) k21 (by omega) (by omega) ?_
 rintro fv1 w41 hP1 hg1 hq1
 refine rnT ?_
 refine TW.pk [1,3,4] rfl ?_
 refine TW.makeFunc rfl rfl (Args.cons rfl ct Args.nil) ?_
 refine rnT ?_
 have b31:=b2.step d1
 have b41:=b31.grown hg1 b31.size h3
 obtain ⟨zz1,hz1,hz21,hz31⟩:=FRow.apps h3 h2 k21 hP1 hq1 b31.size
 have hBx2:=hB1.next b41
 have hNx2:=net_step hN1 b41
 have htx2:=ht.below (f1.below.step b41)
 refine TW.ld rfl (hBx2.fld rfl) ?_
 refine rnT ?_
 have hnm2: ∀j s,(N.ops)[j]?=some s→NameF w41 61 [.pointer (some ⟨g1,0,none⟩)] j s:=fun j s hs W hW=>inc2_c (hBx2.next hW) (hNx2.below hW) hs
 have hgd2: ∀(j:Nat) x,N.ops[j]?=some x→ ∀cs W,Below w41.heap.size w41 W→strT.rep (fun k=>k<w41.heap.size) W cs x→Gives Tryz.prog 63 (.agg cs.toArray:: []).toArray W fun u W'=>Below W.heap.size W W'∧u= .bool (dec ((fun _=>True) x)):=fun j x hx cs W hW hr=>by
  obtain ⟨rfl,_⟩:=hr
  exact inc3_c.mono fun u w' ⟨q1,q2⟩=>⟨q1,by rw [q2,dec_pos trivial]⟩
 refine TW.cl rfl (checkOpr_c (capn:= [.pointer (some ⟨g1,0,none⟩)]) (capg:= []) (lim:=6) (nm:=N.ops) (G:=(fun _=>True)) htx2 hNx2.o en61 en63 (by decide) (rfl) hnm2 hgd2) ?_
 rintro y2 w32 ⟨d2,n2,⟨zs2,hO2,k22,k32⟩,hle2,hiff2⟩
 obtain ⟨Y2,yc2,hy2,_⟩:=hO2.form
 subst hy2
 refine TW.append zs2 rfl rfl go82 rfl (hz1.below d2) rfl hO2.1 (own_news hO2) k22 (by omega) (by omega) ?_
 rintro fv2 w42 hP2 hg2 hq2
 refine rnT ?_
 refine TW.makeFunc rfl rfl (Args.cons rfl ct Args.nil) ?_
 refine rnT ?_
 have b32:=b41.step d2
 have b42:=b32.grown hg2 b32.size hz31
 obtain ⟨zz2,hz2,hz22,hz32⟩:=FRow.apps hz31 hz21 k22 hP2 hq2 b32.size
 have hBx3:=hB1.next b42
 have hNx3:=net_step hN1 b42
 have htx3:=ht.below (f1.below.step b42)
 refine TW.ld rfl (hBx3.fld rfl) ?_
 refine rnT ?_
 refine TW.makeFunc rfl rfl (Args.cons rfl ct Args.nil) ?_
 have hnm3: ∀j s,((N.offs.map (·.name)))[j]?=some s→NameF w42 64 [.pointer (some ⟨g1,0,none⟩)] j s:=fun j s hs W hW=>by
  rw [List.getElem?_map] at hs
  obtain ⟨x,hx,rfl⟩:=Option.map_eq_some_iff.1 hs
  exact inc4_c (hBx3.next hW) (hNx3.below hW) hx
 have hgd3: ∀(j:Nat) x,N.offs[j]?=some x→ ∀cs W,Below w42.heap.size w42 W→ofT.rep (fun k=>k<w42.heap.size) W cs x→Gives Tryz.prog 66 (.agg cs.toArray:: [.pointer (some ⟨g1,0,none⟩)]).toArray W fun u W'=>Below W.heap.size W W'∧u= .bool (dec ((OfOK N) x)):=fun j x hx cs W hW hr=>by
  obtain ⟨u,rfl,q1,q2,q3,q4,q5,q6,q7⟩:=hr
  exact inc5_c (hBx3.next hW) hform ⟨q1,q2,q3,q4,q5,q6,q7⟩
 refine TW.cl rfl (checkOff_c (capn:= [.pointer (some ⟨g1,0,none⟩)]) (capg:= [.pointer (some ⟨g1,0,none⟩)]) (lim:=12) (nm:=(N.offs.map (·.name))) (G:=(OfOK N)) htx3 hNx3.f en64 en66 (by decide) (by simp) hnm3 hgd3) ?_
 rintro y3 w33 ⟨d3,n3,⟨zs3,hO3,k23,k33⟩,hle3,hiff3⟩
 obtain ⟨Y3,yc3,hy3,_⟩:=hO3.form
 subst hy3
 refine TW.append zs3 rfl rfl go82 rfl (hz2.below d3) rfl hO3.1 (own_news hO3) k23 (by omega) (by omega) ?_
 rintro fv3 w43 hP3 hg3 hq3
 refine rnT ?_
 refine TW.pk [1,3,4,5,6] rfl ?_
 refine TW.makeFunc rfl rfl (Args.cons rfl ct Args.nil) ?_
 refine rnT ?_
 have b33:=b42.step d3
 have b43:=b33.grown hg3 b33.size hz32
 obtain ⟨zz3,hz3,hz23,hz33⟩:=FRow.apps hz32 hz22 k23 hP3 hq3 b33.size
 have hBx4:=hB1.next b43
 have hNx4:=net_step hN1 b43
 have htx4:=ht.below (f1.below.step b43)
 refine TW.ld rfl (hBx4.fld rfl) ?_
 refine rnT ?_
 refine TW.makeFunc rfl rfl (Args.cons rfl ct Args.nil) ?_
 have hnm4: ∀j s,((N.lines.map (·.name)))[j]?=some s→NameF w43 68 [.pointer (some ⟨g1,0,none⟩)] j s:=fun j s hs W hW=>by
  rw [List.getElem?_map] at hs
  obtain ⟨x,hx,rfl⟩:=Option.map_eq_some_iff.1 hs
  exact inc6_c (hBx4.next hW) (hNx4.below hW) hx
 have hgd4: ∀(j:Nat) x,N.lines[j]?=some x→ ∀cs W,Below w43.heap.size w43 W→liT.rep (fun k=>k<w43.heap.size) W cs x→Gives Tryz.prog 70 (.agg cs.toArray:: [.pointer (some ⟨g1,0,none⟩)]).toArray W fun u W'=>Below W.heap.size W W'∧u= .bool (dec ((LiOK N) x)):=fun j x hx cs W hW hr=>by
  obtain ⟨rfl,_⟩:=hr
  exact inc7_c (hBx4.next hW) hform
 refine TW.cl rfl (checkLin_c (capn:= [.pointer (some ⟨g1,0,none⟩)]) (capg:= [.pointer (some ⟨g1,0,none⟩)]) (lim:=40) (nm:=(N.lines.map (·.name))) (G:=(LiOK N)) htx4 hNx4.l en68 en70 (by decide) (by simp) hnm4 hgd4) ?_
 rintro y4 w34 ⟨d4,n4,⟨zs4,hO4,k24,k34⟩,hle4,hiff4⟩
 obtain ⟨Y4,yc4,hy4,_⟩:=hO4.form
 subst hy4
 refine TW.append zs4 rfl rfl go82 rfl (hz3.below d4) rfl hO4.1 (own_news hO4) k24 (by omega) (by omega) ?_
 rintro fv4 w44 hP4 hg4 hq4
 refine rnT ?_
 refine TW.makeFunc rfl rfl (Args.cons rfl ct Args.nil) ?_
 refine rnT ?_
 have b34:=b43.step d4
 have b44:=b34.grown hg4 b34.size hz33
 obtain ⟨zz4,hz4,hz24,hz34⟩:=FRow.apps hz33 hz23 k24 hP4 hq4 b34.size
 have hBx5:=hB1.next b44
 have hNx5:=net_step hN1 b44
 have htx5:=ht.below (f1.below.step b44)
 refine TW.ld rfl (hBx5.fld rfl) ?_
 refine rnT ?_
 have hnm5: ∀j s,((N.classes.map (·.name)))[j]?=some s→NameF w44 72 [.pointer (some ⟨g1,0,none⟩)] j s:=fun j s hs W hW=>by
  rw [List.getElem?_map] at hs
  obtain ⟨x,hx,rfl⟩:=Option.map_eq_some_iff.1 hs
  exact inc8_c (hBx5.next hW) (hNx5.below hW) hx
 have hgd5: ∀(j:Nat) x,N.classes[j]?=some x→ ∀cs W,Below w44.heap.size w44 W→claT.rep (fun k=>k<w44.heap.size) W cs x→Gives Tryz.prog 74 (.agg cs.toArray:: []).toArray W fun u W'=>Below W.heap.size W W'∧u= .bool (dec (ClaOK x)):=fun j x hx cs W hW hr=>by
  obtain ⟨rfl,_⟩:=hr
  exact inc9_c
 refine TW.cl rfl (checkCls_c (capn:= [.pointer (some ⟨g1,0,none⟩)]) (capg:= []) (lim:=4) (nm:=(N.classes.map (·.name))) (G:=ClaOK) htx5 hNx5.k en72 en74 (by decide) (by simp) hnm5 hgd5) ?_
 rintro y5 w35 ⟨d5,n5,⟨zs5,hO5,k25,k35⟩,hle5,hiff5⟩
 obtain ⟨Y5,yc5,hy5,_⟩:=hO5.form
 subst hy5
 refine TW.append zs5 rfl rfl go82 rfl (hz4.below d5) rfl hO5.1 (own_news hO5) k25 (by omega) (by omega) ?_
 rintro fv5 w45 hP5 hg5 hq5
 refine rnT ?_
 have b35:=b44.step d5
 have b45:=b35.grown hg5 b35.size hz34
 obtain ⟨zz5,hz5,hz25,hz35⟩:=FRow.apps hz34 hz24 k25 hP5 hq5 b35.size
 refine rt1 rfl ⟨f1.below.step b45,_,⟨zz5,hz5,hz25,fun g hg=>Nat.le_trans f1.below.size (hz35 g hg)⟩,by omega,?_⟩
 constructor
 ·intro h
  have e0:=hiff.1 (by omega)
  have q1:=hiff1.1 (by omega)
  rw [calNm_eq e0] at q1
  exact ⟨e0,q1,hiff2.1 (by omega),hiff3.1 (by omega),hiff4.1 (by omega),hiff5.1 (by omega)⟩
 ·intro h
  have e0:=hiff.2 h.len
  have q1:=hiff1.2 (by rw [calNm_eq h.len]; exact h.cals)
  have q2:=hiff2.2 h.ops
  have q3:=hiff3.2 h.offs
  have q4:=hiff4.2 h.lines
  have q5:=hiff5.2 h.classes
  omega
def tabV (M:Tab12):List Value:=M.map (Value.int .i64)
theorem tab_ad:(Addr.add ⟨g,0,none⟩ ((a:Int).toNat*12)).add ((b:Int).toNat*1)=⟨g,12*a+b,none⟩:=by
 rw [add_add,addr0]
 congr 1
 omega
theorem tab_cell {t:TypeId} (h:Blk w g t (tabV M)) (hl:M.length=144) (ha:a<12) (hb:b<12):w.cell? ((Addr.add ⟨g,0,none⟩ ((a:Int).toNat*12)).add ((b:Int).toNat*1))=some (.int .i64 (g12 M a b)):=by
 rw [tab_ad,←addr0]
 refine h.fld ?_
 unfold tabV g12
 rw [List.getElem?_map,List.getD_eq_getElem?_getD,List.getElem?_eq_getElem (by omega)]
 rfl
theorem relax1_c {t:Int} (hB:Blk w g 100 (tabV M)) (hl:M.length=144) (ha:a<12) (hb:b<12):Gives Tryz.prog 76 #[.int .i64 (a:Int),.int .i64 (b:Int),.int .i64 t,.pointer (some ⟨g,0,none⟩)] w fun _ w'=>But g w w'∧w'.heap.size=w.heap.size∧Blk w' g 100 (tabV (relax12 M a b t)):=by
 have hc:=tab_cell hB hl ha hb
 refine gv (f:=76) ?_
 refine CW.seq (CW.region ?_)
 refine TW.v V.move rfl ⟨ct,trivial⟩ (fun _=>trivial) ?_
 refine TW.v V.move rfl ⟨ct,trivial⟩ (fun _=>trivial) ?_
 refine TW.v V.indexAddrA rfl ⟨ct,ct,trivial⟩ (fun _=>by (try dsimp only); omega) ?_
 refine TW.v V.indexAddrA rfl ⟨ct,ct,trivial⟩ (fun _=>by (try dsimp only); omega) ?_
 refine TW.ld rfl hc ?_
 refine TW.v V.eql rfl ⟨ct,ct,trivial⟩ (fun _=>trivial) ?_
 refine TW.v V.move rfl ⟨ct,trivial⟩ (fun _=>trivial) ?_
 refine TW.v V.move rfl ⟨ct,trivial⟩ (fun _=>trivial) ?_
 refine TW.v V.move rfl ⟨ct,trivial⟩ (fun _=>trivial) ?_
 refine TW.v V.move rfl ⟨ct,trivial⟩ (fun _=>trivial) ?_
 refine TW.v V.indexAddrA rfl ⟨ct,id,trivial⟩ (fun h=>by (try dsimp only); first|omega|(simp [Cnd] at h; omega)) ?_
 refine TW.v V.indexAddrA rfl ⟨id,id,trivial⟩ (fun h=>by (try dsimp only); first|omega|(simp [Cnd] at h; omega)) ?_
 refine TW.ld rfl hc ?_
 refine rnT ?_
 refine CW.cond rfl (fun h1=> ?_) (fun h2=> ?_)
 ·have hr:relax12 M a b t=M.set (12*a+b) t:=by
   unfold relax12
   rw [if_pos (by simpa using h1)]
  refine CW.region ?_
  refine TW.v V.move rfl ⟨ct,trivial⟩ (fun _=>trivial) ?_
  refine TW.v V.move rfl ⟨ct,trivial⟩ (fun _=>trivial) ?_
  refine TW.v V.move rfl ⟨ct,trivial⟩ (fun _=>trivial) ?_
  refine TW.v V.indexAddrA rfl ⟨ct,ct,trivial⟩ (fun _=>by (try dsimp only); omega) ?_
  refine TW.v V.indexAddrA rfl ⟨ct,ct,trivial⟩ (fun _=>by (try dsimp only); omega) ?_
  rw [tab_ad]
  have hlt:(12*a+b)<(tabV M).length:=by unfold tabV; rw [List.length_map]; omega
  refine TW.store1 rfl sz3 rfl rfl (by rw [←tab_ad]; exact hc) (hB.frozen _) rfl ?_
  refine rnT ?_
  refine end0 Tryz.results76 ⟨.setCell,by simp [World.setCell],by rw [hr]; have:=hB.set (12*a+b) (.int .i64 t); rw [show (tabV M).set (12*a+b) (.int .i64 t)=tabV (M.set (12*a+b) t) from by unfold tabV; rw [List.map_set]] at this; exact this⟩
 ·have hr:relax12 M a b t=M:=by
   unfold relax12
   rw [if_neg (by simpa using h2)]
  refine CW.skip ?_
  refine end0 Tryz.results76 ⟨But.of_below (Below.refl _ _),rfl,by rw [hr]; exact hB⟩
theorem tabV_one (M:Tab12):(tabV M).all (·.oneCell')=true:=by
 rw [List.all_eq_true]
 intro u hu
 obtain ⟨x,_,rfl⟩:=List.mem_map.1 hu
 rfl
theorem tabV_len (h:M.length=144):(tabV M).length=144:=by unfold tabV; rw [List.length_map]; exact h
structure RS12 (w W:World) (g2 g3:Nat) (M:Tab12):Prop where
 b:Below w.heap.size w W
 z:Blk W g2 100 (tabV (initL 0))
 t:Blk W g3 100 (tabV M)
theorem relaxed_c (hN:NetAt w v N) (hL:LnOK 12 (lnOf N)) (hli: ∀l∈N.lines,0≤l.frm∧0≤l.to):Gives Tryz.prog 33 #[.agg v.cells.toArray] w fun u w'=>Below w.heap.size w w'∧u= .agg (tabV (relaxed12 (lnOf N))).toArray:=by
 have hform:=NetIn.form hN
 obtain ⟨vc,vn,vo,vf,vl,vk⟩:=v
 obtain ⟨_,_,_,_,⟨A5,c5,e5⟩,_⟩:=id hform
 dsimp only at e5
 subst e5
 have hl:=hN.l
 have hmax:=hl.len.2.2
 have hz0: ∀(t:TypeId) (w':World) (g:Nat),Blk w' g t (List.replicate 144 (Value.int .i64 0))→Blk w' g t (tabV (initL 0)):=fun t w' g h=>by
  rw [initL_zero]
  unfold tabV
  rw [List.map_replicate]
  exact h
 refine gv (f:=33) ?_
 refine rnT ?_
 refine TW.box rfl rfl rfl rfl ?_
 rintro g1 w1 f1
 refine TW.alloc rfl rfl zc100 ?_
 rintro g2 w2 f2
 refine rnT ?_
 refine TW.alloc rfl rfl zc100 ?_
 rintro g3 w3 f3
 refine rnT ?_
 have k1:=f1.at_
 have k2:=f2.at_
 have k3:=f3.at_
 have s1:=f1.size
 have s2:=f2.size
 have hg23:g2≠g3:=by omega
 have hB13:=(f1.blk.next f2.below).next f3.below
 have b3:=(f1.below.step f2.below).step f3.below
 have hl3:=hl.below b3
 have hput: ∀ {W W':World} {M M':Tab12},RS12 w W g2 g3 M→But g3 W W'→Blk W' g3 100 (tabV M')→RS12 w W' g2 g3 M':=fun h hb hB=>⟨h.b.grown hb h.b.size (fun k hk=>by cases hk; omega),hb.blk h.z hg23,hB⟩
 have h0:RS12 w w3 g2 g3 (initL 0):=⟨b3,hz0 _ _ _ (f2.blk.next f3.below),hz0 _ _ _ f3.blk⟩
 have hg1:g1≠g3:=by omega
 refine CW.lp [1,2,3] (fun a:Nat=> [(12,none,.int .i64 (a:Int))])
  (fun a W=>a≤12∧RS12 w W g2 g3 (initL (12*a))∧But g3 w3 W) (fun a=>12-a) 0 ⟨Nat.zero_le _,h0,But.of_below (Below.refl _ _)⟩ ?_
 rintro a W ⟨ha,hR,hbut⟩
 refine rnT ?_
 refine CW.condP rfl (fun hlt=> ?_) (fun hge=> ?_)
 ·refine rnT ?_
  refine CW.lp [1,2,3,4,12] (fun b:Nat=> [(15,none,.int .i64 (b:Int))])
   (fun b W=>b≤12∧RS12 w W g2 g3 (initL (12*a+b))∧But g3 w3 W) (fun b=>12-b) 0 ⟨Nat.zero_le _,hR,hbut⟩ ?_
  rintro b W' ⟨hb,hR',hbut'⟩
  refine rnT ?_
  refine CW.condP rfl (fun hlt2=> ?_) (fun hge2=> ?_)
  ·have hs:=initL_succ (k:=12*a+b) (by omega)
   have hdm:(12*a+b) / 12=(12*a+b)%12↔a=b:=by omega
   refine rnT ?_
   refine CW.condP rfl (fun hne=> ?_) (fun heq=> ?_)
   ·rw [if_neg (by omega)] at hs
    have hc:=tab_cell (a:=a) (b:=b) hR'.t (initL_len _) (by omega) (by omega)
    refine CW.region ?_
    refine TW.v V.move rfl ⟨ct,trivial⟩ (fun _=>trivial) ?_
    refine TW.v V.move rfl ⟨ct,trivial⟩ (fun _=>trivial) ?_
    refine TW.v V.indexAddrA rfl ⟨ct,ct,trivial⟩ (fun _=>by (try dsimp only); omega) ?_
    refine TW.v V.indexAddrA rfl ⟨ct,ct,trivial⟩ (fun _=>by (try dsimp only); omega) ?_
    rw [tab_ad]
    refine TW.store1 rfl sz3 rfl rfl (by rw [←tab_ad]; exact hc) (hR'.t.frozen _) rfl ?_
    refine rnT ?_
    refine KW.rd (b+1) ⟨by omega,hput hR' .setCell ?_,hbut'.trans .setCell⟩
    have:=hR'.t.set (12*a+b) (.int .i64 (-1))
    rw [show 12*a+(b+1)=12*a+b+1 by omega,hs]
    rw [show (tabV (initL (12*a+b))).set (12*a+b) (.int .i64 (-1))=tabV ((initL (12*a+b)).set (12*a+b) (-1)) from by unfold tabV; rw [List.map_set]] at this
    exact this
   ·rw [if_pos (by omega)] at hs
    refine rnT ?_
    refine KW.rd (b+1) ⟨by omega,?_,hbut'⟩
    rw [show 12*a+(b+1)=12*a+b+1 by omega,hs]
    exact hR'
  ·refine rnT ?_
   refine KW.rd (a+1) ⟨by omega,?_,hbut'⟩
   rw [show 12*(a+1)=12*a+b by omega]
   exact hR'
 have ha12:a=12:=by omega
 subst ha12
 rw [show initL (12*12)=init12 from initL_all] at hR
 have hlW:SL liT (fun k=>k<w.heap.size) W (.slice A5 N.lines.length c5) N.lines:=hl.below hR.b
 refine rnT ?_
 refine TW.makeFunc rfl rfl (Args.cons rfl ct Args.nil) ?_
 refine rnT ?_
 refine TW.ld rfl ((hbut.blk hB13 hg1).fld rfl) ?_
 refine rnT ?_
 obtain ⟨L,hLe⟩: ∃L,L=lnOf N:=⟨_,rfl⟩
 have hLl:L.length=N.lines.length:=by rw [hLe]; simp [lnOf]
 rw [←hLe] at hL ⊢
 refine CW.lp [1,2,3,6,29,30] (fun j:Nat=> [(31,none,.int .i64 (j:Int))])
  (fun j W=>j≤N.lines.length∧RS12 w W g2 g3 (lines12 init12 (L.take j))) (fun j=>N.lines.length-j) 0 ⟨Nat.zero_le _,hR⟩ ?_
 rintro j W2 ⟨hj,hR2⟩
 refine rnT ?_
 refine CW.condP rfl (fun hlt=> ?_) (fun hge=> ?_)
 ·obtain ⟨l,hll,hlm⟩:=getx (l:=N.lines) (k:=j) (by omega)
  have hl2:=hl.below hR2.b
  obtain ⟨ad,rfl⟩:=hl2.addr (by omega)
  obtain ⟨ad',cs,e1,hF,hrep,hc⟩:=hl2.at hll
  cases e1
  obtain ⟨rfl,_⟩:=hrep
  have hln:L[j]?=some (l.frm.toNat,l.to.toNat,l.trav):=by rw [hLe]; unfold lnOf; rw [List.getElem?_map,hll]; rfl
  have hlk:=hL _ (List.mem_of_getElem? hln)
  dsimp only at hlk
  obtain ⟨p1,p2⟩:=hli l hlm
  have q1:l.frm=((l.frm.toNat:Nat):Int):=by omega
  have q2:l.to=((l.to.toNat:Nat):Int):=by omega
  refine rnT ?_
  refine TW.ldS rfl (hc) ?_
  refine TW.newVar rfl zc36 rfl sz36 rfl rfl ?_
  rintro g8 w8 f8
  refine rnT ?_
  refine TW.ld rfl (f8.blk.fld rfl) ?_
  refine rnT ?_
  refine TW.ld rfl (f8.blk.fld rfl) ?_
  refine rnT ?_
  refine TW.ld rfl (f8.blk.fld rfl) ?_
  rw [q1,q2]
  have hT8:=hR2.t.next f8.below
  have hlen2:=(lines12_at hL (L.take j) (fun x hx=>List.mem_of_mem_take hx)).len
  refine TW.call0 rfl rfl en76 rfl (Args.cons rfl ct (Args.cons rfl ct (Args.cons rfl ct Args.nil))) (relax1_c (t:=l.trav) hT8 hlen2 hlk.1 hlk.2.1) ?_
  rintro y9 w9 ⟨hbut9,hsz9,hB9⟩
  refine rnT ?_
  have hR8:RS12 w w8 g2 g3 (lines12 init12 (L.take j)):=⟨hR2.b.step f8.below,hR2.z.next f8.below,hT8⟩
  refine KW.rd (j+1) ⟨by omega,?_⟩
  rw [List.take_add_one,hln]
  have hh:=hput hR8 hbut9 hB9
  rw [←lines12_snoc init12 (L.take j) (l.frm.toNat,l.to.toNat,l.trav)] at hh
  exact hh
 have hjl:L.take j=L:=List.take_of_length_le (by omega)
 rw [hjl] at hR2
 obtain ⟨M1,hM1⟩: ∃M,M=lines12 init12 L:=⟨_,rfl⟩
 rw [←hM1] at hR2
 refine rnT ?_
 have hT: ∀ {o a b:Nat},o<12→a<12→b≤12→T12 L 40960000 (row12 o (rnd12 (all12 M1 o) o a) a b):=fun h1 h2 h3=>by rw [hM1]; exact table_at hL h1 h2 h3
 refine CW.lp [2,3,6] (fun o:Nat=> [(44,none,.int .i64 (o:Int))])
  (fun o W=>o≤12∧RS12 w W g2 g3 (all12 M1 o)) (fun o=>12-o) 0 ⟨Nat.zero_le _,by rw [all12_zero]; exact hR2⟩ ?_
 rintro o W3 ⟨ho,hR3⟩
 refine rnT ?_
 refine CW.condP rfl (fun hlto=> ?_) (fun hgeo=> ?_)
 ·refine rnT ?_
  refine CW.lp [2,3,6,9,44] (fun a:Nat=> [(47,none,.int .i64 (a:Int))])
   (fun a W=>a≤12∧RS12 w W g2 g3 (rnd12 (all12 M1 o) o a)) (fun a=>12-a) 0 ⟨Nat.zero_le _,by rw [rnd12_zero]; exact hR3⟩ ?_
  rintro a W4 ⟨ha,hR4⟩
  refine rnT ?_
  refine CW.condP rfl (fun hlta=> ?_) (fun hgea=> ?_)
  ·refine rnT ?_
   refine CW.lp [2,3,6,9,10,44,47] (fun b:Nat=> [(50,none,.int .i64 (b:Int))])
    (fun b W=>b≤12∧RS12 w W g2 g3 (row12 o (rnd12 (all12 M1 o) o a) a b)) (fun b=>12-b) 0 ⟨Nat.zero_le _,by rw [row12_zero]; exact hR4⟩ ?_
   rintro b W5 ⟨hb,hR5⟩
   refine rnT ?_
   refine CW.condP rfl (fun hltb=> ?_) (fun hgeb=> ?_)
   ·have ht5:=hT (o:=o) (a:=a) (b:=b) (by omega) (by omega) hb
    have hstep:=row12_succ o (rnd12 (all12 M1 o) o a) a b
    obtain ⟨M,hM⟩: ∃M,M=row12 o (rnd12 (all12 M1 o) o a) a b:=⟨_,rfl⟩
    rw [←hM] at hR5 ht5 hstep
    have c1:=tab_cell (a:=a) (b:=o) hR5.t ht5.len (by omega) (by omega)
    have c2:=tab_cell (a:=o) (b:=b) hR5.t ht5.len (by omega) (by omega)
    have r1:=ht5.rng a o (by omega) (by omega)
    have r2:=ht5.rng o b (by omega) (by omega)
    refine CW.skip (KW.then_ (CW.seq (CW.block (CW.seq (CW.region ?_)))))
    refine TW.v V.move rfl ⟨ct,trivial⟩ (fun _=>trivial) ?_
    refine TW.v V.assign rfl ⟨ct,trivial⟩ (fun _=>trivial) ?_
    refine TW.nil (KW.pick [2,3,6,9,10,11,44,47,50] [(2,_,_),(3,_,_),(6,_,_),(9,_,_),(10,_,_),(11,_,_),(44,_,_),(47,_,_),(50,_,_)] rfl (KW.then_ ?_))
    refine CW.seq (CW.region ?_)
    refine TW.v V.move rfl ⟨ct,trivial⟩ (fun _=>trivial) ?_
    refine TW.v V.move rfl ⟨ct,trivial⟩ (fun _=>trivial) ?_
    refine TW.v V.indexAddrA rfl ⟨ct,ct,trivial⟩ (fun _=>by (try dsimp only); omega) ?_
    refine TW.v V.indexAddrA rfl ⟨ct,ct,trivial⟩ (fun _=>by (try dsimp only); omega) ?_
    refine TW.ld rfl c1 ?_
    refine TW.v V.neq rfl ⟨ct,ct,trivial⟩ (fun _=>trivial) ?_
    refine TW.v V.move rfl ⟨ct,trivial⟩ (fun _=>trivial) ?_
    refine TW.v V.move rfl ⟨ct,trivial⟩ (fun _=>trivial) ?_
    refine TW.v V.move rfl ⟨ct,trivial⟩ (fun _=>trivial) ?_
    refine TW.v V.indexAddrA rfl ⟨ct,id,trivial⟩ (fun h=>by (try dsimp only); first|omega|(simp [Cnd] at h; omega)) ?_
    refine TW.v V.indexAddrA rfl ⟨id,id,trivial⟩ (fun h=>by (try dsimp only); first|omega|(simp [Cnd] at h; omega)) ?_
    refine TW.ld rfl c2 ?_
    refine rnT ?_
    refine CW.pk [2,3,6,9,10,11,44,47,50,66] rfl ?_
    refine CW.cond rfl (fun hboth=> ?_) (fun hnot=> ?_)
    ·have hv:via12 o a M b=relax12 M a b (g12 M a o+g12 M o b):=by unfold via12; rw [if_pos (by simpa using hboth)]
     refine CW.drawR mixed fun W6 hb6=> ?_
     refine RW.draw .weak 14 (by kernel_rfl) (by kernel_rfl) rfl rfl hb6 ?_
     refine DW.v V.move rfl ⟨ct,trivial⟩ (fun _=>trivial) ?_
     refine DW.v V.move rfl ⟨ct,trivial⟩ (fun _=>trivial) ?_
     refine DW.v V.move rfl ⟨ct,trivial⟩ (fun _=>trivial) ?_
     refine DW.v V.move rfl ⟨ct,trivial⟩ (fun _=>trivial) ?_
     refine DW.v V.move rfl ⟨ct,trivial⟩ (fun _=>trivial) ?_
     refine DW.v V.indexAddrA rfl ⟨ct,ct,trivial⟩ (fun _=>by (try dsimp only); omega) ?_
     refine DW.v V.indexAddrA rfl ⟨ct,ct,trivial⟩ (fun _=>by (try dsimp only); omega) ?_
     refine DW.ld rfl c1 ?_
     refine DW.v V.move rfl ⟨ct,trivial⟩ (fun _=>trivial) ?_
     refine DW.v V.move rfl ⟨ct,trivial⟩ (fun _=>trivial) ?_
     refine DW.v V.indexAddrA rfl ⟨ct,ct,trivial⟩ (fun _=>by (try dsimp only); omega) ?_
     refine DW.v V.indexAddrA rfl ⟨ct,ct,trivial⟩ (fun _=>by (try dsimp only); omega) ?_
     refine DW.ld rfl c2 ?_
     refine rnD ?_
     refine DW.nil (DW.fin [2,3,6,9,10,11,44,47,50,67,68,69,80] [(2,_,_),(3,_,_),(6,_,_),(9,_,_),(10,_,_),(11,_,_),(44,_,_),(47,_,_),(50,_,_),(67,_,_),(68,_,_),(69,_,_),(80,_,_)] rfl (fun w7 b7=>KW.rk' ?_))
     refine RW.one (by kernel_rfl) (by kernel_rfl) rfl ?_
     have hT7:=hR5.t.next b7
     refine TW.call0 rfl rfl en76 rfl (Args.cons rfl ct (Args.cons rfl ct (Args.cons rfl ct Args.nil))) (relax1_c (t:=g12 M a o+g12 M o b) hT7 ht5.len (by omega) (by omega)) ?_
     rintro y9 w9 ⟨hbut9,hsz9,hB9⟩
     refine TW.nil (KW.pick [2,3,6,9,10,11,44,47,50] [(2,_,_),(3,_,_),(6,_,_),(9,_,_),(10,_,_),(11,_,_),(44,_,_),(47,_,_),(50,_,_)] rfl (KW.rk ?_))
     refine RW.end rfl (KW.pick [2,3,6,9,10,11,44,47,50] [(2,_,_),(3,_,_),(6,_,_),(9,_,_),(10,_,_),(11,_,_),(44,_,_),(47,_,_),(50,_,_)] rfl (KW.blockN (KW.then_ ?_)))
     refine rnT ?_
     have hR7:RS12 w w7 g2 g3 M:=⟨hR5.b.step b7,hR5.z.next b7,hT7⟩
     refine KW.rd (b+1) ⟨by omega,?_⟩
     rw [hstep,hv]
     exact hput hR7 hbut9 hB9
    ·have hv:via12 o a M b=M:=by unfold via12; rw [if_neg (by simpa using hnot)]
     refine rnT ?_
     refine KW.rd (b+1) ⟨by omega,?_⟩
     rw [hstep,hv]
     exact hR5
   ·have hb12:b=12:=by omega
    subst hb12
    refine rnT ?_
    refine KW.rd (a+1) ⟨by omega,?_⟩
    rw [rnd12_succ]
    exact hR5
  ·have ha12:a=12:=by omega
   subst ha12
   refine rnT ?_
   refine KW.rd (o+1) ⟨by omega,?_⟩
   rw [all12_succ]
   exact hR4
 have ho12:o=12:=by omega
 subst ho12
 have hend:all12 M1 12=relaxed12 L:=by rw [hM1,relaxed12]
 rw [hend] at hR3
 have hlenE:=tabV_len (relaxed12_ok hL).1.len
 refine rnT ?_
 refine TW.loadA (tabV (relaxed12 L)) rfl rfl Tryz.underlying100 sz100 rfl ct (fun _=>fun j v hj=>hR3.t.fld hj) hlenE ?_
 refine TW.storeBlkF rfl rfl rfl hR3.z sz100 hlenE (tabV_len (initL_len 0)) (tabV_one _) ?_
 rintro w9 hB9 hbut9 hsz9
 refine rnT ?_
 exact retCA Tryz.results33 Tryz.underlying100 sz100 hlenE rfl hB9 ⟨hR3.b.grown hbut9 hR3.b.size (fun k hk=>by cases hk; omega),rfl⟩
theorem cons_ln12 (h:ConsOK keys11 N):LnOK 12 (lnOf N):=h.ln.1.more h.ln.2.1
theorem cons_nat (h:ConsOK keys11 N): ∀l∈N.lines,0≤l.frm∧0≤l.to:=fun l hl=>⟨(h.lines.good l hl).f1,(h.lines.good l hl).t1⟩
theorem check_c (ht:Tabs w) (hN:NetAt w v N):Gives Tryz.prog 27 #[.agg v.cells.toArray] w fun u w'=>Below w.heap.size w w'∧ ∃A n c,u= .slice A n c∧(n=0↔SoundOK keys11 N):=by
 have hform:=NetIn.form hN
 obtain ⟨vc,vn,vo,vf,vl,vk⟩:=v
 obtain ⟨⟨A1,c1,e1⟩,⟨A2,c2,e2⟩,⟨A3,c3,e3⟩,⟨A4,c4,e4⟩,⟨A5,c5,e5⟩,⟨A6,c6,e6⟩⟩:=id hform
 dsimp only at e1 e2 e3 e4 e5 e6
 subst e1 e2 e3 e4 e5 e6
 have m4:=hN.f.len.2.2
 refine gv (f:=27) ?_
 refine rnT ?_
 refine TW.box rfl rfl rfl rfl ?_
 rintro g1 w1 f1
 refine rnT ?_
 have hB1:=f1.blk
 have hN1:=net_step hN f1.below
 refine TW.ldS rfl (fun _ _ hv=>hB1.fld hv) ?_
 refine TW.cl rfl (incon_c (v:=⟨.slice A1 N.cals.length c1,.slice A2 N.names.length c2,.slice A3 N.ops.length c3,.slice A4 N.offs.length c4,.slice A5 N.lines.length c5,.slice A6 N.classes.length c6⟩) (ht.below f1.below) hN1) ?_
 rintro y2 w2 ⟨d2,n,hR,hn,hiff⟩
 obtain ⟨Y,yc,rfl⟩:=FRow.form hR
 have b2:=f1.below.step d2
 have hB2:=hB1.next d2
 refine rnT ?_
 refine CW.condP rfl (fun hbad=> ?_) (fun hgood=> ?_)
 ·refine rnT ?_
  refine rt1 rfl ⟨b2,_,_,_,rfl,⟨fun h=>by omega,fun h=>hiff.2 h.cons⟩⟩
 have hcons:ConsOK keys11 N:=hiff.1 (by omega)
 have hL:=cons_ln12 hcons
 have hn12:=hcons.ln.2.1
 obtain ⟨rel,hrel⟩: ∃r,r=relaxed12 (lnOf N):=⟨_,rfl⟩
 have hok:=relaxed12_ok hL
 rw [←hrel] at hok
 have hlen:=tabV_len hok.1.len
 have hn0:n=0:=by omega
 subst hn0
 refine rnT ?_
 refine TW.ldS rfl (fun _ _ hv=>hB2.fld hv) ?_
 refine TW.cl rfl (relaxed_c (v:=⟨.slice A1 N.cals.length c1,.slice A2 N.names.length c2,.slice A3 N.ops.length c3,.slice A4 N.offs.length c4,.slice A5 N.lines.length c5,.slice A6 N.classes.length c6⟩) (net_step hN1 d2) hL (cons_nat hcons)) ?_
 rintro y3 w3 ⟨d3,rfl⟩
 rw [←hrel]
 refine TW.newVar rfl zc100 rfl (hlen ▸ sz100) (by rw [hlen]; rfl) (tabV_one _) ?_
 rintro g4 w4 f4
 refine rnT ?_
 have hB4:=(hB2.next d3).next f4.below
 have hR4:=(hR.below d3).below f4.below
 have b4:=(b2.step d3).step f4.below
 have b14:Below w1.heap.size w1 w4:=(d2.step d3).step f4.below
 have hYg: ∀g,(Value.slice Y 0 yc).ownBlock=some g→g≠g4:=fun g hg e=>by
  obtain ⟨zs,q1,_⟩:=hR
  have:=q1.lt hg
  have:=f4.at_
  have:=d3.size
  omega
 refine TW.ld rfl (hB4.fld rfl) ?_
 refine rnT ?_
 refine CW.lp [1,4,17] (fun z:Nat×Value×Nat=> [(3,none,z.2.1),(18,none,.int .i64 (z.1:Int))])
  (fun z W=>z.1≤N.offs.length∧Below w1.heap.size w1 W∧Blk W g4 100 (tabV rel)∧FRow W w1.heap.size z.2.1 z.2.2∧(∀g,z.2.1.ownBlock=some g→g≠g4)∧z.2.2≤z.1∧(z.2.2=0↔ ∀a b,b<z.1→a<N.offs.length→ReachL (lnOf N) a b)) (fun z=>N.offs.length-z.1) (0,.slice Y 0 yc,0) ⟨Nat.zero_le _,b14,f4.blk,hR4,hYg,Nat.le_refl _,⟨fun _ a b hb=>by omega,fun _=>rfl⟩⟩ ?_
 rintro ⟨b,fv,n⟩ W ⟨hb,hW,hTW,⟨zs,hO,h2,h3⟩,h4g,hnb,hre⟩
 dsimp only at hb hO h3 h4g hnb hre
 have hB1W:=hB1.next hW
 refine rnT ?_
 refine CW.pk [1,3,4,17,18,19] rfl ?_
 refine CW.condP rfl (fun hlt=> ?_) (fun hge=> ?_)
 ·refine rnT ?_
  refine TW.ld rfl (hB1W.fld rfl) ?_
  refine rnT ?_
  refine CW.lp [1,3,4,5,17,18,23] (fun a:Nat=> [(24,none,.int .i64 (a:Int))])
   (fun a W'=>a≤N.offs.length∧W'=W∧ ∀i,i<a→ReachL (lnOf N) i b) (fun a=>N.offs.length-a) 0 ⟨Nat.zero_le _,rfl,fun i hi=>by omega⟩ ?_
  rintro a W' ⟨ha,rfl,hall⟩
  refine rnT ?_
  refine CW.condP rfl (fun hlt2=> ?_) (fun hge2=> ?_)
  ·have hc:=tab_cell (a:=a) (b:=b) hTW hok.1.len (by omega) (by omega)
   have hiffab:=hok.2 a b (by omega) (by omega)
   refine CW.skip (KW.then_ (CW.seq (CW.block (CW.seq (CW.region ?_)))))
   refine TW.v V.move rfl ⟨ct,trivial⟩ (fun _=>trivial) ?_
   refine TW.v V.assign rfl ⟨ct,trivial⟩ (fun _=>trivial) ?_
   refine TW.nil (KW.pick [1,3,4,5,6,17,18,23,24] [(1,_,_),(3,_,_),(4,_,_),(5,_,_),(6,_,_),(17,_,_),(18,_,_),(23,_,_),(24,_,_)] rfl (KW.then_ ?_))
   refine CW.seq (CW.region ?_)
   refine TW.v V.move rfl ⟨ct,trivial⟩ (fun _=>trivial) ?_
   refine TW.v V.move rfl ⟨ct,trivial⟩ (fun _=>trivial) ?_
   refine TW.v V.indexAddrA rfl ⟨ct,ct,trivial⟩ (fun _=>by (try dsimp only); omega) ?_
   refine TW.v V.indexAddrA rfl ⟨ct,ct,trivial⟩ (fun _=>by (try dsimp only); omega) ?_
   refine TW.ld rfl hc ?_
   refine rnT ?_
   refine CW.condP rfl (fun hno=> ?_) (fun hyes=> ?_)
   ·have hnr:=hiffab.1 hno
    refine rnT ?_
    refine TW.build [0,1,2] _ [.int .i64 3,.int .i64 (b:Int),.int .i64 111] rfl rfl rfl (Args.cons rfl ct (Args.cons rfl ct (Args.cons rfl ct Args.nil))) (by kernel_rfl) ?_
    refine TW.buildSlice 130 _ rfl rfl rfl eo82 (Args.cons rfl ct Args.nil) rfl rfl rfl rfl rfl ?_
    rintro g5 w5 f5
    refine TW.append [.int .i64 3,.int .i64 (b:Int),.int .i64 111] rfl rfl go82 rfl (hO.below f5.below) rfl rfl (fun j u hj=>⟨_,rfl,f5.blk.fld hj⟩) (fun u hu=>by simp at hu; rcases hu with rfl|rfl|rfl<;>rfl) (by omega) (by omega) ?_
    rintro fv' w6 hO6 hg6 hn6
    refine rnT ?_
    have hW2:=hW.step f5.below
    refine KW.rd (b+1,fv',n+1) ⟨by show b+1≤_; omega,?_,GB.blk hg6 (hTW.next f5.below) (fun e=>h4g _ e rfl),FRow.app (w:=w5) h3 h2 (fun u hu=>by simp at hu; rcases hu with rfl|rfl|rfl<;>rfl) hO6 hn6 hW2.size,fun g hg=> ?_,by show n+1≤b+1; omega,⟨fun h=>absurd h (Nat.succ_ne_zero n),fun h=>absurd (h a b (by show b<b+1; omega) (by omega)) hnr⟩⟩
    ·exact hW2.grown hg6 hW2.size h3
    ·rcases hn6 with h|h
     ·exact h4g g (by rw [←h]; exact hg)
     ·rw [h] at hg
      cases hg
      have:=hTW.lt
      have:=f5.below.size
      omega
   ·have hr:ReachL (lnOf N) a b:=Classical.byContradiction fun h=>hyes (hiffab.2 h)
    refine rnT ?_
    refine KW.rd (a+1) ⟨by omega,rfl,fun i hi=> ?_⟩
    rcases Nat.lt_or_ge i a with h|h
    ·exact hall i h
    ·have:i=a:=by omega
     subst this
     exact hr
  ·refine rnT ?_
   refine KW.rd (b+1,fv,n) ⟨by show b+1≤_; omega,hW,hTW,⟨zs,hO,h2,h3⟩,h4g,by show n≤b+1; omega,?_⟩
   show n=0↔ ∀x y,y<b+1→x<N.offs.length→ReachL (lnOf N) x y
   rw [hre]
   refine ⟨fun h x y hy hx=> ?_,fun h x y hy hx=>h x y (by omega) hx⟩
   rcases Nat.lt_or_ge y b with h'|h'
   ·exact h x y h' hx
   ·have:y=b:=by omega
    subst this
    exact hall x (by omega)
 ·have hbl:b=N.offs.length:=by omega
  subst hbl
  obtain ⟨Z,zc,hzv,_⟩:=hO.form
  subst hzv
  refine rnT ?_
  refine rt1 rfl ⟨f1.below.step hW,_,_,_,rfl,?_⟩
  rw [hre]
  exact ⟨fun h=>⟨hcons,fun a b ha hb=>h a b hb ha⟩,fun h a b hb ha=>h.all a b ha hb⟩
end Go.Proofs.YtffjgpoadfkjlaaGreatDoor
namespace Go.Proofs
open Go.Shelf
def Tryz.lays189_ren:Go.Shelf.Ren:=⟨fun|189=>126|125=>137|257=>136|128=>150|129=>151|294=>141|295=>142|296=>143|297=>144|298=>145|299=>146|216=>147|300=>148|301=>149|328=>159|329=>160|330=>161|331=>162|332=>163|215=>97|343=>166|n=>n,fun|28=>37|3=>3|46=>190|0=>0|51=>73|53=>202|4=>4|183=>194|182=>193|131=>198|5=>5|9=>9|218=>203|222=>207|228=>210|229=>117|n=>n,fun|n=>n⟩
theorem Tryz.lays189:Go.Proofs.Lays.n189 Tryz.prog Tryz.lays189_ren:= {
 mixed:=by kernel_rfl
 f125:=Tryz.func137.trans (congrArg some (by kernel_rfl))
 f128:=Tryz.func150.trans (congrArg some (by kernel_rfl))
 f129:=Tryz.func151.trans (congrArg some (by kernel_rfl))
 f189:=Tryz.func126.trans (congrArg some (by kernel_rfl))
 f215:=Tryz.func97.trans (congrArg some (by kernel_rfl))
 f216:=Tryz.func147.trans (congrArg some (by kernel_rfl))
 f257:=Tryz.func136.trans (congrArg some (by kernel_rfl))
 f294:=Tryz.func141.trans (congrArg some (by kernel_rfl))
 f295:=Tryz.func142.trans (congrArg some (by kernel_rfl))
 f296:=Tryz.func143.trans (congrArg some (by kernel_rfl))
 f297:=Tryz.func144.trans (congrArg some (by kernel_rfl))
 f298:=Tryz.func145.trans (congrArg some (by kernel_rfl))
 f299:=Tryz.func146.trans (congrArg some (by kernel_rfl))
 f300:=Tryz.func148.trans (congrArg some (by kernel_rfl))
 f301:=Tryz.func149.trans (congrArg some (by kernel_rfl))
 f328:=Tryz.func159.trans (congrArg some (by kernel_rfl))
 f329:=Tryz.func160.trans (congrArg some (by kernel_rfl))
 f330:=Tryz.func161.trans (congrArg some (by kernel_rfl))
 f331:=Tryz.func162.trans (congrArg some (by kernel_rfl))
 f332:=Tryz.func163.trans (congrArg some (by kernel_rfl))
 f343:=Tryz.func166.trans (congrArg some (by kernel_rfl))
 t0:=Tryz.underlying0
 a0:=Tryz.isAgg0
 z0:=Tryz.sizeOf0
 v0:=Tryz.zeroValue0
 t3:=Tryz.underlying3
 a3:=Tryz.isAgg3
 z3:=Tryz.sizeOf3
 v3:=Tryz.zeroValue3
 t4:=Tryz.underlying4
 a4:=Tryz.isAgg4
 z4:=Tryz.sizeOf4
 v4:=Tryz.zeroValue4
 t5:=Tryz.underlying5
 a5:=Tryz.isAgg5
 z5:=Tryz.sizeOf5
 v5:=Tryz.zeroValue5
 t9:=Tryz.underlying9
 a9:=Tryz.isAgg9
 z9:=Tryz.sizeOf9
 v9:=Tryz.zeroValue9
 t28:=Tryz.underlying37
 a28:=Tryz.isAgg37
 z28:=Tryz.sizeOf37
 v28:=Tryz.zeroValue37
 t46:=Tryz.underlying190
 a46:=Tryz.isAgg190
 z46:=Tryz.sizeOf190
 v46:=Tryz.zeroValue190
 t51:=Tryz.underlying73
 a51:=Tryz.isAgg73
 z51:=Tryz.sizeOf73
 v51:=Tryz.zeroValue73
 t53:=Tryz.underlying202
 a53:=Tryz.isAgg202
 z53:=Tryz.sizeOf202
 v53:=Tryz.zeroValue202
 t131:=Tryz.underlying198
 a131:=Tryz.isAgg198
 z131:=Tryz.sizeOf198
 v131:=Tryz.zeroValue198
 t182:=Tryz.underlying193
 a182:=Tryz.isAgg193
 z182:=Tryz.sizeOf193
 v182:=Tryz.zeroValue193
 t183:=Tryz.underlying194
 a183:=Tryz.isAgg194
 z183:=Tryz.sizeOf194
 v183:=Tryz.zeroValue194
 t218:=Tryz.underlying203
 a218:=Tryz.isAgg203
 z218:=Tryz.sizeOf203
 v218:=Tryz.zeroValue203
 t222:=Tryz.underlying207
 a222:=Tryz.isAgg207
 z222:=Tryz.sizeOf207
 v222:=Tryz.zeroValue207
 t228:=Tryz.underlying210
 a228:=Tryz.isAgg210
 z228:=Tryz.sizeOf210
 v228:=Tryz.zeroValue210
 t229:=Tryz.underlying117
 a229:=Tryz.isAgg117
 z229:=Tryz.sizeOf117
 v229:=Tryz.zeroValue117}
open Go.Sort Go.RowKit in
theorem Tryz.slices_Sort_int (blk off cap:Nat) (zs:List Int) (w:World) (hH:Holds (Value.int .i64) w blk off zs.toArray) (hblk:blk<w.heap.size) (hsz:zs.length<4611686018427387904) :
  Calls Tryz.prog 126 #[.slice (some ⟨blk,off,none⟩) zs.length cap] w fun e w' =>
   e= .returned (.tuple #[])∧ ∃n os,w'=grow (putRow (Value.int .i64) (Sort.ahead w n) blk off (zs.mergeSort fun x y=>decide (x≤y)).toArray) os:=Any.slices_Sort_int Tryz.lays189 blk off cap zs w hH hblk hsz
open Go.RowKit Go.Sort in
theorem Tryz.slices_Sort_int_none (p:Option Addr) (cap:Nat) (w:World) :
  Calls Tryz.prog 126 #[.slice p 0 cap] w fun e w'=>e= .returned (.tuple #[])∧w'=w:=Any.slices_Sort_int_none Tryz.lays189 p cap w
end Go.Proofs
namespace Go.Proofs.YtffjgpoadfkjlaaGreatDoor
open Go.PF Go.RowKit Go.Ord
attribute [local irreducible] TW CW KW DW
variable {w:World} {gf:FuncId} {cap:List Value} {own:Nat→Prop} {Pos:List Int→Int→Prop} {Done:List Int→Prop}
theorem Below.putCtl {n D:Nat} {w0:World} {o:Obj} (h:Below n w0 w) (hD:n≤D):Below n w0 (w.putObj D o) :=
 ⟨h.os,h.tape,h.output,by simpa [World.putObj] using h.size,fun i hi=>(World.putObj_heap_other (by omega)).trans (h.block i hi)⟩
theorem sort_c {v:Value} {xs:List Int} (h:OwnS w 3 1 v xs.length (xs.map (Value.int .i64))) (hn:xs.length<4611686018427387904) :
  Gives Tryz.prog 126 #[v] w fun _ w'=>w.grownBy w' v.ownBlock∧OwnS w' 3 1 v xs.length ((xs.mergeSort fun x y=>decide (x≤y)).map (Value.int .i64)):=by
 rcases h.2 with ⟨rfl,h0⟩|⟨g,cap,cur,rfl,hg,hh,h1,h2,h3,h4⟩
 ·have hx:xs= []:=List.eq_nil_of_length_eq_zero h0
  subst hx
  refine (Tryz.slices_Sort_int_none none 0 w).mono ?_
  rintro e w' ⟨rfl,rfl⟩
  exact ⟨_,rfl,⟨rfl,rfl,rfl,Nat.le_refl _,fun _ _ _=>rfl⟩,by simpa using OwnS.nil w' _ 1⟩
 ·have hH:=holds_of_blockI (ss:=xs) hh (by rw [Nat.mul_one] at h4; exact h4)
  refine (Tryz.slices_Sort_int g 0 cap xs w hH (Array.getElem?_eq_some_iff.1 hh).1 hn).mono ?_
  rintro e w' ⟨rfl,n,os,rfl⟩
  exact ⟨_,rfl,grownBy_sortedI _,ownsRow_sortedI (by simp [List.length_mergeSort]) hg hh h1 h2 h3⟩
def keyPos (ks:List Int) (pre:List Int) (x:Int):Prop:=(pre++ [x]).Nodup∧ ∀y∈pre++ [x],y∈ks
def keyAll (ks:List Int) (xs:List Int):Prop:=xs.Nodup∧ ∀y,y∈xs↔y∈ks
theorem keys_iter {g bm:Nat} {m:List (Int×Value)} (hg:Blk w g 159 [.map (some bm)]) (hm:MapL intK w bm m) :
  IterOK Tryz.prog 127 [.pointer (some ⟨g,0,none⟩)] (fun x:Int=> [.int .i64 x]) (keyPos (m.map (·.1))) (keyAll (m.map (·.1))) (fun k=>k=g∨k=bm) w:=by
 intro yl J Jx W M hown hsz hyl hM hMlt hJ hJx hy h0
 have hgW:Blk W g 159 [.map (some bm)]:=(hown g (.inl rfl) hg.lt).trans hg
 have hmW:MapL intK W bm m:=hm.kept (hown bm (.inr rfl) hm.lt)
 have hkn:=hm.keys
 refine gv (f:=127) ?_
 refine rnT ?_
 refine TW.ld rfl (hgW.cell 0) ?_
 refine TW.rangeM intK rfl rfl Tryz.underlying159 rfl hmW ?_
 rintro it w1 hit hw1 hb1 hwk
 refine rnT ?_
 refine CW.loopS (fun x:List Int×(Nat→Prop)×Option (Int×Value)=> [(0,none,.func (.yield yl) #[] #[]),(5,none,.pointer (some ⟨it,0,none⟩))])
  (fun x W'=>J x.1 x.2.1 W'∧WalkM intK W' it bm m x.1 x.2.2∧W.heap.size<W'.heap.size∧(∀k,x.2.1 k→k<W'.heap.size)∧ ¬x.2.1 it∧ ¬x.2.1 bm∧x.1.Nodup∧ ∀y∈x.1,y∈m.map (·.1))
  (fun x=>m.length-x.1.length) ([],M,none) [0,5]
  ⟨hJ _ _ _ _ h0 (.of_below hb1),hwk,by show W.heap.size<w1.heap.size; omega,fun k hk=>by have:=hMlt k hk; show k<w1.heap.size; omega,fun h=>by have:=hMlt _ h; omega,(hM bm (.inr rfl)).1,List.nodup_nil,fun y hy=>by cases hy⟩ rfl ?_
 rintro ⟨pre,M1,lst⟩ W1 ⟨hj,hwk1,hsz1,hM1,hMit,hMbm,hnd,hsub⟩
 dsimp only at hj hwk1 hM1 hMit hMbm hnd hsub hsz1
 refine rnT ?_
 refine TW.nextM intK rfl rfl rfl hwk1 (fun hall=> ?_) (fun k v w2 hkv hkn' hs2 hbut2 hext2 hwk2=> ?_)
 ·skip
  refine rnT ?_
  refine CW.cond rfl (fun h1=> ?_) (fun h2=> ?_)
  ·exact absurd h1 (by simp)
  ·refine rnT ?_
   refine end0 Tryz.results127 (.inl ⟨pre,M1,⟨hnd,fun y=>⟨fun h=>hsub y h,fun h=> ?_⟩⟩,hj⟩)
   rw [List.mem_map] at h
   obtain ⟨p,hp,rfl⟩:=h
   exact hall p hp
 ·skip
  refine rnT ?_
  refine CW.cond rfl (fun h1=> ?_) (fun h2=> ?_)
  ·refine rnT ?_
   refine TW.entryM intK rfl rfl rfl hwk2 ?_
   refine rnT ?_
   have hpos:keyPos (m.map (·.1)) pre k:=by
    refine ⟨List.nodup_append.2 ⟨hnd,by simp,fun a ha b hb e=> ?_⟩,fun y hy=> ?_⟩
    ·rw [List.mem_singleton] at hb
     subst hb
     subst e
     exact hkn' ha
    ·rcases List.mem_append.1 hy with h|h
     ·exact hsub y h
     ·rw [List.mem_singleton] at h
      subst h
      exact List.mem_map.2 ⟨(y,v),hkv,rfl⟩
   have hj2:J pre M1 w2:=hJ _ _ _ _ hj (hext2.less (by omega))
   refine TW.yield rfl rfl rfl (Args.cons rfl ct Args.nil) (hy pre k M1 w2 hj2 hpos (fun q hq=>by have:=hM1 q hq; omega) (by omega)) ?_
   rintro yb W3 hR
   refine rnT ?_
   refine CW.cond rfl (fun hno=> ?_) (fun hgo=> ?_)
   ·refine rnT ?_
    refine ret0 Tryz.results127 (.inr ?_)
    obtain ⟨M',hx⟩:=hR.no (by simpa using hno)
    exact ⟨_,M',hx⟩
   ·refine rnT ?_
    obtain ⟨M',hj3,hm3⟩:=hR.yes (by simpa using hgo)
    have hitlt:it<w2.heap.size:=by obtain ⟨o,ho,_⟩:=hwk2.iter; exact (Array.getElem?_eq_some_iff.1 ho).1
    have hbmlt:bm<w2.heap.size:=by have:=hmW.lt; omega
    refine KW.round (pre++ [k],M',some (k,v)) [0,5] rfl ⟨hj3,hwk2.kept (hR.kept it hitlt hMit (by omega)) (hR.kept bm hbmlt hMbm (hM bm (.inr rfl)).2),by have:=hR.size; show W.heap.size<W3.heap.size; omega,fun q hq=>(hm3 q hq).2,fun h=> ?_,fun h=> ?_,hpos.1,hpos.2⟩ ?_
    ·rcases (hm3 _ h).1 with h|h
     ·exact hMit h
     ·omega
    ·rcases (hm3 _ h).1 with h|h
     ·exact hMbm h
     ·omega
    ·have hle:=nodup_len (l:=pre++ [k]) (k:=m.map (·.1)) hpos.1 hpos.2
     show m.length-(pre++ [k]).length<m.length-pre.length
     simp at hle ⊢
     omega
  ·exact absurd h2 (by simp)
theorem keys_c {bm:Nat}:Gives Tryz.prog 88 #[.map (some bm)] w fun u w'=>Below w.heap.size w w'∧ ∃g,u= .func (.func 127) #[] [.pointer (some ⟨g,0,none⟩)].toArray∧Blk w' g 159 [.map (some bm)]:=by
 refine gv (f:=88) ?_
 refine rnT ?_
 refine TW.box rfl rfl rfl rfl ?_
 rintro g w1 f1
 refine rnT ?_
 refine TW.pk [0,1,2] rfl ?_
 refine TW.makeFunc rfl rfl (Args.cons rfl ct Args.nil) ?_
 refine rnT ?_
 refine rt1 rfl ⟨f1.below,g,rfl,f1.blk⟩
theorem IterOK.later {α:Type} {enc:α→List Value} {Pos:List α→α→Prop} {Done:List α→Prop} {w':World} (h:IterOK Tryz.prog gf cap enc Pos Done own w) (hb:Below w.heap.size w w'):IterOK Tryz.prog gf cap enc Pos Done own w':=by
 intro l J Jx W M h1 h2
 exact h l J Jx W M (fun k hk hlt=>(h1 k hk (Nat.lt_of_lt_of_le hlt hb.size)).trans (hb.block k hlt)) (Nat.le_trans hb.size h2)
theorem appendSeq_c (hit:IterOK Tryz.prog gf cap (fun x:Int=> [.int .i64 x]) Pos Done own w) (hen:enters Tryz.prog gf=true) (hown: ∀k,own k→k<w.heap.size) (hbd: ∀pre x,Pos pre x→pre.length≤1000000000) :
  Gives Tryz.prog 135 #[.slice none 0 0,.func (.func gf) #[] cap.toArray] w fun v w'=>Below w.heap.size w w'∧ ∃xs,Done xs∧OwnS w' 3 1 v xs.length (xs.map (Value.int .i64))∧ ∀g,v.ownBlock=some g→w.heap.size≤g:=by
 refine gvM (f:=135) ?_
 refine rnT ?_
 refine TW.box rfl rfl rfl rfl ?_
 rintro g2 w1 f1
 refine rnT ?_
 have hg2:=f1.at_
 have hs1:=f1.size
 refine CW.range rfl hen (IterOK.later hit f1.below) rfl (fun _=>rfl)
  (fun pre M W=>Below w.heap.size w W∧ ∃vf,Blk W g2 37 [vf]∧OwnS W 3 1 vf pre.length (pre.map (Value.int .i64))∧(∀q,vf.ownBlock=some q→w1.heap.size≤q)∧M=fun k=>k=g2∨vf.ownBlock=some k)
  (fun c pre M W=>False) (fun k=>k=g2)
  (fun k hk=>by subst hk; exact ⟨by omega,fun h=>by have:=hown _ h; omega⟩) (fun k hk=>by have:=hown k hk; omega)
  (fun pre M W1 W2 ⟨a1,vf,a2,a3,a4,a5⟩ hx=>⟨(hx.less (by omega)).below a1 (Nat.le_refl _),vf,a2.ext hx,a3.ext hx,a4,a5⟩)
  (fun c pre M W1 W2 h hx=>h)
  ⟨f1.below,.slice none 0 0,f1.blk,OwnS.nil _ _ _,fun q hq=>by simp [Value.ownBlock] at hq,by funext k; simp [Value.ownBlock]⟩ ?_ ?_ ?_
 ·rintro D L pre p M W hD hL ⟨a1,vf,a2,a3,a4,rfl⟩ hpos hMlt hML hMD hrec
  have hpl:=hbd pre p hpos
  refine rnT ?_
  refine KW.begin hrec fun W2 hx hsz hk hrec2=> ?_
  have a2':Blk W2 g2 37 [vf]:=a2.ext hx
  have a3':=a3.ext hx
  have a1':Below w.heap.size w W2:=(hx.less (by omega)).below a1 (Nat.le_refl _)
  refine rnT ?_
  refine TW.ld rfl (a2'.cell 0) ?_
  refine rnT ?_
  refine TW.buildSlice 3 _ rfl rfl rfl eo37 (Args.cons rfl ct Args.nil) rfl rfl rfl rfl rfl ?_
  rintro g3 w3 f3
  have o3:=a3'.below f3.below
  refine TW.append [.int .i64 p] rfl rfl go37 rfl o3 rfl rfl (fun j v hj=>⟨⟨g3,0,none⟩,rfl,f3.blk.fld hj⟩) (fun v hv=>by simp at hv; subst hv; rfl) (by omega) (by omega) ?_
  rintro vf' w4 o4 hg4 hn4
  have s3:=f3.below.size
  have hL2:L<W2.heap.size:=hrec2.lt
  have hvlt: ∀q,vf.ownBlock=some q→q<W2.heap.size:=fun q hq=>a3'.lt hq
  have hLv:vf.ownBlock≠some L:=fun e=>hML (.inr e)
  have hDv:vf.ownBlock≠some D:=fun e=>hMD (.inr e)
  have hLg:L≠g2:=fun e=>hML (.inl e)
  have hDg:D≠g2:=fun e=>hMD (.inl e)
  have b4:Blk w4 g2 37 [vf]:=Blk.keptO (a2'.next f3.below) hg4 (fun e=>by have:=a4 _ e; omega)
  obtain ⟨A4,c4,hv4,_⟩:=o4.form
  have h14:vf'.oneCell'=true:=by rw [hv4]; rfl
  refine TW.store1 rfl sz37 rfl rfl (b4.cell 0) (b4.frozen 0) h14 ?_
  refine rnT ?_
  have rec4:w4.heap[L]?=W2.heap[L]?:=(hg4.block L (by omega) (fun e=>hLv e.symm)).trans (f3.below.block L hL2)
  have hw4:Below w.heap.size w w4:=(a1'.step f3.below).grown hg4 (a1'.step f3.below).size (fun q hq=>by have:=a4 q hq; omega)
  have hsz4:W2.heap.size≤w4.heap.size:=Nat.le_trans s3 hg4.size
  have hnew: ∀q,vf'.ownBlock=some q→vf.ownBlock=some q∨q=w3.heap.size:=fun q hq=>by
   rcases hn4 with h|h
   ·exact .inl (by rw [←h]; exact hq)
   ·rw [h] at hq; cases hq; exact .inr rfl
  have hw1:w1.heap.size≤W2.heap.size:=by omega
  have o5:OwnS (w4.setCell ⟨g2,0,none⟩ vf') 3 1 vf' (pre.length+1) (pre.map (Value.int .i64)++ [.int .i64 p]):=o4.kept fun q hq=>Below.heap_setCell _ _ _ _ (fun e=>by
   have e:q=g2:=e
   rcases hnew q hq with h|h
   ·have:=a4 q h; omega
   ·omega)
  refine KW.endN (hrec2.kept ((Below.heap_setCell _ _ _ _ (by show L≠g2; exact hLg)).trans rec4)) fun W5 hx5 hsz5 hk5 hrec5=> ?_
  have hs5:W5.heap.size=w4.heap.size:=by rw [hsz5]; simp
  refine ⟨by omega,fun k hk1 hk2 hk3=> ?_,fun _=>⟨fun k=>k=g2∨vf'.ownBlock=some k,⟨⟨(hx5.less (by omega)).below (hw4.setCell (by show w.heap.size≤g2; omega) _) (Nat.le_refl _),vf',(b4.set 0 vf').ext hx5,by simpa using o5.ext hx5,fun q hq=> ?_,rfl⟩,fun h=> ?_,fun h=> ?_,hrec5⟩,fun k hk=> ?_⟩,fun h=>by cases h⟩
  ·refine (hk5 k hk3).trans ((Below.heap_setCell _ _ _ _ (fun e=>hk2 (.inl e))).trans ((hg4.block k (by omega) (fun e=>hk2 (.inr e.symm))).trans ((f3.below.block k (by omega)).trans (hk k hk3))))
  ·rcases hnew q hq with h|h
   ·exact a4 q h
   ·omega
  ·rcases h with h|h
   ·exact hLg h
   ·rcases hnew L h with h|h
    ·exact hLv h
    ·omega
  ·rcases h with h|h
   ·exact hDg h
   ·rcases hnew D h with h|h
    ·exact hDv h
    ·omega
  ·rcases hk with rfl|hk
   ·exact ⟨.inl (.inl rfl),by omega⟩
   ·rcases hnew k hk with h|h
    ·exact ⟨.inl (.inr h),by have:=hvlt k h; omega⟩
    ·refine ⟨.inr (by omega),?_⟩
     have:=o4.lt hk
     omega
 ·rintro D xs M W hD hdone ⟨a1,vf,a2,a3,a4,rfl⟩ hdef
  refine KW.blockN (KW.then_ ?_)
  refine rnT ?_
  refine TW.ld rfl (a2.cell 0) ?_
  refine rnT ?_
  have hgD:g2≠D:=fun e=>by subst e; unfold Blk at a2; rw [hdef] at a2; cases a2
  refine ret1M Tryz.results135 rfl hdef ⟨Below.putCtl a1 (by omega),xs,hdone,a3.kept fun q hq=>World.putObj_heap_other (fun e=> ?_),fun q hq=>by have:=a4 q hq; omega⟩
  subst e
  rcases a3.2 with ⟨rfl,_⟩|⟨g',cap',cur,hv,_,hh,_⟩
  ·simp [Value.ownBlock] at hq
  ·rw [hv] at hq
   simp [Value.ownBlock] at hq
   subst hq
   rw [hdef] at hh
   cases hh
 ·rintro D c pre M W hD h
  exact h.elim
theorem collect_c (hit:IterOK Tryz.prog gf cap (fun x:Int=> [.int .i64 x]) Pos Done own w) (hen:enters Tryz.prog gf=true) (hown: ∀k,own k→k<w.heap.size) (hbd: ∀pre x,Pos pre x→pre.length≤1000000000) :
  Gives Tryz.prog 125 #[.func (.func gf) #[] cap.toArray] w fun v w'=>Below w.heap.size w w'∧ ∃xs,Done xs∧OwnS w' 3 1 v xs.length (xs.map (Value.int .i64))∧ ∀g,v.ownBlock=some g→w.heap.size≤g:=by
 refine gv (f:=125) ?_
 refine rnT ?_
 refine TW.cl rfl (appendSeq_c hit hen hown hbd) ?_
 rintro y1 w1 h1
 refine rnT ?_
 refine rt1 rfl (h1)
theorem sorted_c (hit:IterOK Tryz.prog gf cap (fun x:Int=> [.int .i64 x]) Pos Done own w) (hen:enters Tryz.prog gf=true) (hown: ∀k,own k→k<w.heap.size) (hbd: ∀pre x,Pos pre x→pre.length≤1000000000) (hdb: ∀xs,Done xs→xs.length≤1000000000) :
  Gives Tryz.prog 87 #[.func (.func gf) #[] cap.toArray] w fun v w'=>Below w.heap.size w w'∧ ∃xs,Done xs∧OwnS w' 3 1 v xs.length ((xs.mergeSort fun x y=>decide (x≤y)).map (Value.int .i64))∧ ∀g,v.ownBlock=some g→w.heap.size≤g:=by
 refine gv (f:=87) ?_
 refine rnT ?_
 refine TW.cl rfl (collect_c hit hen hown hbd) ?_
 rintro y1 w1 ⟨hb1,xs,hd,hO,hg⟩
 refine rnT ?_
 have hxl:xs.length<4611686018427387904:=by have:=hdb xs hd; omega
 refine TW.cl rfl (sort_c hO hxl) ?_
 rintro y2 w2 ⟨hg2,hO2⟩
 refine rnT ?_
 refine rt1 rfl ⟨hb1.grown hg2 hb1.size hg,xs,hd,hO2,hg⟩
def Cnts (w:World) (b:Nat) (S:List Int) (T:Int):Prop:= ∃m,MapL intK w b m∧(∀x,x∈m.map (·.1)↔x∈S)∧ ∀p∈m,∃c:Int,p.2= .int .i64 c∧0≤c∧c≤T
theorem recordsOf_c {v:Value} {l:List Ev} (hl:SE w v l) (hsm:l.length≤1000) (hne: ∀e∈l,e.needs.length≤1000) :
  Gives Tryz.prog 39 #[v] w fun x w'=>Below w.heap.size w w'∧OwnS w' 3 1 x (recsS l).length ((recsS l).map (Value.int .i64))∧ ∀g,x.ownBlock=some g→w.heap.size≤g:=by
 obtain ⟨A,cap,rfl,_⟩:=hl.form
 refine gv (f:=39) ?_
 refine rnT ?_
 refine TW.makeMapL intK rfl rfl ?_
 rintro b w1 hbw hw1 hb1 hM1
 refine rnT ?_
 refine CW.lp [3,9,10] (fun i:Nat=> [(11,none,.int .i64 (i:Int))])
  (fun i W=>i≤l.length∧But b w1 W∧Cnts W b (needsOf (l.take i)) (i*1000)) (fun i=>l.length-i) 0 ⟨Nat.zero_le _,But.of_below (Below.refl _ _),[],hM1,fun x=>by simp [needsOf],fun p hp=>by cases hp⟩ ?_
 rintro i W ⟨hi,hbut,hC⟩
 have hbW:Below w.heap.size w W:=But.below hb1 hbut (by omega)
 refine rnT ?_
 refine CW.pk [3,9,10,11,12] rfl ?_
 refine CW.condP rfl (fun hlt=> ?_) (fun hge=> ?_)
 ·have hil:i<l.length:=by omega
  have hlW:=se_step hl hbW
  obtain ⟨ad,rfl⟩:=hlW.addr (by omega)
  obtain ⟨e,he⟩: ∃e,l[i]?=some e:=⟨l[i],List.getElem?_eq_getElem hil⟩
  obtain ⟨nv,hcells,i1,i2,i3,hneeds⟩:=SE.get hlW he
  obtain ⟨C,ncap,rfl,_⟩:=hneeds.form
  have hnl:=hne e (List.mem_of_getElem? he)
  refine rnT ?_
  refine TW.ldS rfl (hcells) ?_
  refine TW.newVar rfl zc39 rfl sz39 rfl rfl ?_
  rintro g2 w2 f2
  refine rnT ?_
  refine TW.ld rfl (f2.blk.fld rfl) ?_
  refine rnT ?_
  refine CW.lp [3,9,10,11,16,17] (fun j:Nat=> [(18,none,.int .i64 (j:Int))])
   (fun j W'=>j≤e.needs.length∧But b w1 W'∧But b w2 W'∧Cnts W' b (needsOf (l.take i)++e.needs.take j) (i*1000+j)) (fun j=>e.needs.length-j) 0 ⟨Nat.zero_le _,hbut.step f2.below,But.of_below (Below.refl _ _),?_⟩ ?_
  ·obtain ⟨m,h1,h2,h3⟩:=hC
   exact ⟨m,h1.below f2.below,by simpa using h2,by simpa using h3⟩
  rintro j W' ⟨hj,hbut1,hbut2,m,hm,hmk,hmv⟩
  have hbW':Below w.heap.size w W':=But.below hb1 hbut1 (by omega)
  refine rnT ?_
  refine CW.condP rfl (fun hlt2=> ?_) (fun hge2=> ?_)
  ·have hjl:j<e.needs.length:=by omega
   have hn':SL intT (fun k=>k<w.heap.size) W' (.slice C e.needs.length ncap) e.needs:=by
    obtain ⟨nv',hcells',_,_,_,hneeds'⟩:=SE.get hl he
    have hcw:=hcells' 3 nv' rfl
    have hcW:=(hbW.cell (block_lt_of_cell hcw)).trans hcw
    have:=hcells 3 _ rfl
    rw [hcW] at this
    cases this
    exact hneeds'.below hbW'
   obtain ⟨ad2,rfl⟩:=hn'.addr (by omega)
   have hx:e.needs[j]?=some e.needs[j]:=List.getElem?_eq_getElem hjl
   refine rnT ?_
   refine TW.ld rfl (hn'.getI hx) ?_
   refine rnT ?_
   refine TW.lookup1 intK e.needs[j] rfl rfl Tryz.underlying159 ze3 rfl rfl hm ?_
   rintro vc hvc
   obtain ⟨c,rfl,hc0,hc1⟩: ∃c:Int,vc= .int .i64 c∧0≤c∧c≤i*1000+j:=by
    rcases hvc with h|⟨_,rfl⟩
    ·exact hmv _ h
    ·exact ⟨0,rfl,by omega,by omega⟩
   refine rnT ?_
   refine TW.mapUpdateL intK e.needs[j] rfl Tryz.underlying159 rfl rfl rfl hm ?_
   rintro w4 hs4 hbut4 hM4
   refine rnT ?_
   refine KW.rd (j+1) ⟨by omega,hbut1.trans hbut4,hbut2.trans hbut4,_,hM4,fun x=> ?_,fun p hp=> ?_⟩
   ·rw [List.take_add_one,hx,←List.append_assoc,List.mem_append,←hmk x,List.mem_map,List.mem_map]
    constructor
    ·rintro ⟨p,hp,rfl⟩
     rcases mem_lput.1 hp with rfl|⟨h,_⟩
     ·exact .inr (by simp)
     ·exact .inl ⟨p,h,rfl⟩
    ·rintro (⟨p,hp,rfl⟩|h)
     ·by_cases hpe:p.1=e.needs[j]
      ·exact ⟨_,mem_lput.2 (.inl rfl),hpe.symm⟩
      ·exact ⟨p,mem_lput.2 (.inr ⟨hp,hpe⟩),rfl⟩
     ·simp at h
      exact ⟨_,mem_lput.2 (.inl rfl),h.symm⟩
   ·rcases mem_lput.1 hp with rfl|⟨h,_⟩
    ·exact ⟨c+1,rfl,by omega,by omega⟩
    ·obtain ⟨c',h1,h2,h3⟩:=hmv p h
     exact ⟨c',h1,h2,by omega⟩
  ·refine rnT ?_
   refine KW.rd (i+1) ⟨by omega,hbut1,m,hm,fun x=> ?_,fun p hp=> ?_⟩
   ·rw [hmk x,show j=e.needs.length by omega,List.take_length,List.take_add_one,he]
    simp [needsOf,List.flatMap_append]
   ·obtain ⟨c',h1,h2,h3⟩:=hmv p hp
    exact ⟨c',h1,h2,by omega⟩
 ·obtain ⟨m,hm,hmk,hmv⟩:=hC
  rw [show i=l.length by omega,List.take_length] at hmk
  have hmlen:m.length≤1000000:=by
   have h1:=nodup_len (l:=m.map (·.1)) (k:=needsOf l) hm.keys (fun x hx=>(hmk x).1 hx)
   have h2: ∀(q:List Ev),(∀e∈q,e.needs.length≤1000)→(needsOf q).length≤q.length*1000:=by
    intro q
    induction q with
    | nil=>intro _; simp [needsOf]
    | cons a q ih =>
     intro hq
     have:=ih (fun e he=>hq e (by simp [he]))
     have h3:=hq a (by simp)
     unfold needsOf at this ⊢
     simp only [List.flatMap_cons,List.length_append,List.length_cons]
     omega
   have:=h2 l hne
   simp at h1
   omega
  refine rnT ?_
  refine TW.cl rfl (keys_c) ?_
  rintro y5 w5 ⟨hb5,g5,rfl,hB5⟩
  have q1: ∀k,(k=g5∨k=b)→k<w5.heap.size:=fun k hk=>by
   rcases hk with rfl|rfl
   ·exact hB5.lt
   ·exact (hm.below hb5).lt
  have q2: ∀pre x,keyPos (m.map (·.1)) pre x→pre.length≤1000000000:=fun pre x hp=>by
   have:=nodup_len (l:=pre++ [x]) (k:=m.map (·.1)) hp.1 hp.2
   simp at this
   omega
  have q3: ∀xs,keyAll (m.map (·.1)) xs→xs.length≤1000000000:=fun xs hx=>by
   have:=nodup_len (l:=xs) (k:=m.map (·.1)) hx.1 (fun y hy=>(hx.2 y).1 hy)
   simp at this
   omega
  refine TW.cl rfl (sorted_c (keys_iter hB5 (hm.below hb5)) en127 q1 q2 q3) ?_
  rintro y6 w6 ⟨hb6,xs,hxs,hO6,hg6⟩
  have hrec:recsS l=xs.mergeSort fun x y=>decide (x≤y):=by
   refine inc_ext (recsS_inc l) (inc_sorted hxs.1) (fun x=> ?_)
   rw [List.mem_mergeSort,hxs.2 x,hmk x,mem_recsS]
   unfold needsOf
   rw [List.mem_flatMap]
  refine rnT ?_
  refine rt1 rfl ⟨(hbW.step hb5).step hb6,?_,fun q hq=>by have:=hg6 q hq; have:=hb5.size; have:=hbW.size; omega⟩
  rw [hrec,List.length_mergeSort]
  exact hO6
end Go.Proofs.YtffjgpoadfkjlaaGreatDoor
namespace Go.PF
open Go.RowKit
section
variable {P:Program} {r:Option Nat} {Q:Exit→Act→World→Prop} {N:Nat} {ds:List Deferred}
theorem CW.loopD0 {α:Type} {c:Code} {E0:Env} {w:World} (Dd:α→List Deferred) (E:α→Env) (J:α→World→Prop) (m:α→Nat) (x0:α) (h0:J x0 w) (hE: ∀a,Fit N ds E0 a→Fit N (Dd x0) (E x0) a)
  (round: ∀x w,J x w→CW P r (Exit.then (fun a' w'=> ∃x',Fit N (Dd x') (E x') a'∧J x' w'∧m x'<m x) Q) N (Dd x) c (E x) w):CW P r Q N ds (.loop c) E0 w:=by
 classical
 intro a ha
 let I:Act→World→Prop:=fun a w=> ∃x,Fit N (Dd x) (E x) a∧J x w
 let M:Act→World→Nat→Prop:=fun a w n=> ∃x,Fit N (Dd x) (E x) a∧J x w∧m x=n
 have hex: ∀a w,I a w→ ∃n,M a w n∧ ∀k,M a w k→n≤k:=by
  intro a w ⟨x,h1,h2⟩
  have key: ∀k,(∃j,j≤k∧M a w j)→ ∃n,M a w n∧ ∀k,M a w k→n≤k:=by
   intro k
   induction k with
   | zero =>
    rintro ⟨j,hj,hm⟩
    have:j=0:=by omega
    subst this
    exact ⟨0,hm,fun k _=>Nat.zero_le k⟩
   | succ k ih =>
    rintro ⟨j,hj,hm⟩
    by_cases hk: ∃j,j≤k∧M a w j
    ·exact ih hk
    ·refine ⟨j,hm,fun i hi=> ?_⟩
     rcases Nat.lt_or_ge i j with hlt|hge
     ·exact absurd ⟨i,by omega,hi⟩ hk
     ·exact hge
  exact key (m x) ⟨m x,Nat.le_refl _,x,h1,h2,rfl⟩
 let μ:Act→World→Nat:=fun a w=>if h:I a w then Classical.choose (hex a w h) else 0
 have hμ: ∀a w,I a w→ ∃x,Fit N (Dd x) (E x) a∧J x w∧m x=μ a w:=by
  intro a w h
  have:=(Classical.choose_spec (hex a w h)).1
  simpa [μ,h] using this
 have hμle: ∀a w x,Fit N (Dd x) (E x) a→J x w→μ a w≤m x:=by
  intro a w x h1 h2
  have hI:I a w:=⟨x,h1,h2⟩
  have:=(Classical.choose_spec (hex a w hI)).2 (m x) ⟨x,h1,h2,rfl⟩
  simpa [μ,hI] using this
 refine wpIn_loop I μ ⟨x0,hE a ha,h0⟩ fun a1 w1 hI=> ?_
 obtain ⟨x,h1,h2,h3⟩:=hμ a1 w1 hI
 refine wpIn_mono (round x w1 h2 a1 h1) fun e a2 w2 hq=> ?_
 cases e with
 | normal =>
  obtain ⟨x',q1,q2,q3⟩:=hq
  exact ⟨⟨x',q1,q2⟩,by rw [←h3]; exact Nat.lt_of_le_of_lt (hμle a2 w2 x' q1 q2) q3⟩
 | _=>exact hq
def markOf (D:Nat):Deferred:= {target:= .collected D,args:= #[]}
theorem CW.loopD {α:Type} {c:Code} {E:Env} {w:World} (Dd:α→List Deferred) (F:α→Env) (J:α→World→Prop) (m:α→Nat) (x0:α) (is:List Nat) (hD:Dd x0=ds) (h0:J x0 w) (hE:PF.pick E is=some (F x0))
  (round: ∀x w,J x w→CW P r (Exit.then (fun a' w'=> ∃x',Fit N (Dd x') (F x') a'∧J x' w'∧m x'<m x) Q) N (Dd x) c (F x) w):CW P r Q N ds (.loop c) E w :=
 CW.loopD0 Dd F J m x0 h0 (fun _ ha=>by rw [hD]; exact ha.pick hE) round
theorem KW.roundD {α:Type} {E:Env} {w:World} {Dd:α→List Deferred} {F:α→Env} {J:α→World→Prop} {m:α→Nat} {x:α} (x':α) (is:List Nat) (hD:Dd x'=ds) (hp:PF.pick E is=some (F x')) (hJ:J x' w) (hm:m x'<m x) :
  KW N ds (Exit.then (fun a' w'=> ∃x',Fit N (Dd x') (F x') a'∧J x' w'∧m x'<m x) Q .normal) E w :=
 fun _ ha=>⟨x',by rw [hD]; exact ha.pick hp,hJ,hm⟩
variable {fn:Func} {R:Value→World→Prop} {E:Env} {w:World}
theorem leaves_marks (hres:fn.results= #[]) {tmps:Array Value} {n:Nat}: ∀(Ds:List Nat) (w:World),Ds.Nodup→(∀D∈Ds,n≤D∧w.heap[D]?=some (.deferred (some [])))→(∀w',ExtF n w w'→R (.tuple #[]) w') →
  LeavesInM (FR none) 0 P fn tmps (fun e w'=> ∃v,e= .returned v∧R v w') (Ds.map markOf) .returning w
 | [],w,_,_,hR=>⟨.tuple #[],results_none hres _ _ _,.tuple #[],rfl,hR w (ExtF.refl _ _)⟩
 | D::Ds,w,hn,hD,hR=>by
  have hn':=List.nodup_cons.1 hn
  obtain ⟨h1,h2⟩:=hD D (by simp)
  have hext:ExtF n w (w.putObj D (.deferred none)):=ExtF.putObj h2 rfl h1
  refine ⟨by simp,.inl ⟨D,_,rfl,run_takeDeferred h2,?_⟩⟩
  refine leaves_marks hres Ds _ hn'.2 (fun D' hD'=> ?_) (fun w' hx=>hR w' (hext.trans hx))
  obtain ⟨h3,h4⟩:=hD D' (by simp [hD'])
  exact ⟨h3,(World.putObj_heap_other (fun e=>hn'.1 (by rw [←e]; exact hD'))).trans h4⟩
theorem retMs {n:Nat} (Ds:List Nat) (hres:fn.results= #[]) (hn:Ds.Nodup) (hD: ∀D∈Ds,n≤D∧w.heap[D]?=some (.deferred (some []))) (hR: ∀w',ExtF n w w'→R (.tuple #[]) w') (e:Exit) (he:e= .ret∨e= .normal) :
  KW N (Ds.map markOf) (bodyPostM (FR none) 0 P fn (fun e w'=> ∃v,e= .returned v∧R v w') e) E w:=by
 intro a ha
 have key:LeavesInM (FR none) 0 P fn a.tmps (fun e w'=> ∃v,e= .returned v∧R v w') a.defers .returning w:=by
  rw [ha.defers]
  exact leaves_marks hres Ds w hn hD hR
 rcases he with rfl|rfl
 ·exact key
 ·exact key
theorem ret2M0 {s t:Nat} {v u:Value} (hres:fn.results= #[.tmp s,.tmp t]) (hs:look E s=some (none,v)) (ht:look E t=some (none,u)) (hR:R (.tuple #[v,u]) w):KW N [] (bodyPostM (FR none) 0 P fn (fun e w'=> ∃v,e= .returned v∧R v w') .ret) E w:=by
 intro a ha
 have key:LeavesInM (FR none) 0 P fn a.tmps (fun e w'=> ∃v,e= .returned v∧R v w') a.defers .returning w:=by
  rw [ha.defers]
  exact ⟨.tuple #[v,u],by rw [results_tmp2 hres a.tmps P w,(ha.slots s none v hs).1 trivial,(ha.slots t none u ht).1 trivial],_,rfl,hR⟩
 exact key
theorem ret2M {D s t:Nat} {v u:Value} (hres:fn.results= #[.tmp s,.tmp t]) (hs:look E s=some (none,v)) (ht:look E t=some (none,u)) (hD:w.heap[D]?=some (.deferred (some []))) (hR:R (.tuple #[v,u]) (w.putObj D (.deferred none))) :
  KW N ({target:= .collected D,args:= #[]}:: []) (bodyPostM (FR none) 0 P fn (fun e w'=> ∃v,e= .returned v∧R v w') .ret) E w :=
 retM (fun a W ha _=>by rw [results_tmp2 hres a.tmps P W,(ha.slots s none v hs).1 trivial,(ha.slots t none u ht).1 trivial]) hD hR .ret (.inl rfl)
end
end Go.PF
