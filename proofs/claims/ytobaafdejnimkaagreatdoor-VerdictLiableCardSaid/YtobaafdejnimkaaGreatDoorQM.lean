/- Texts of this claim,joined. -/
import Derived.Test.YtobaafdejnimkaaGreatDoorQL
set_option linter.unusedSimpArgs false
set_option linter.unusedVariables false
set_option maxRecDepth 100000
set_option maxHeartbeats 4000000
namespace Go.Proofs.YtobaafdejnimkaaGreatDoor
open Go.PF Go.RowKit Go.Ord
attribute [local irreducible] TW CW KW DW
variable {w:World} {i g kn g8 kg b g9 g7 lim a:Nat} {N:Net} {F:Nat→Prop} {v:NV} {capn capg:List Value} {s:ByteArray} {nm:List ByteArray} {kd:Int} {M:Tab12}
theorem ru1Off_c (ht:Tabs w) (hB:Blk w g8 188 [.func (.func kn) #[] capn.toArray]) (hen:enters Tryz.prog kn=true) (hn:NameF w kn capn i s) :
  Gives Tryz.prog 199 #[.int .i64 (i:Int),.pointer (some ⟨g8,0,none⟩)] w fun u w'=>Below w.heap.size w w'∧u= .int .i64 (res1 s):=by
 refine gv (f:=199) ?_
 refine rnT ?_
 refine TW.ld rfl (hB.cell 0) ?_
 refine rnT ?_
 refine TW.call0 rfl rfl hen rfl (Args.cons rfl ct Args.nil) (hn w (Below.refl _ _)) ?_
 rintro y1 w1 ⟨c1,rfl⟩
 refine TW.cl rfl (isName_c (ht.below c1)) ?_
 rintro y2 w2 ⟨c2,rfl⟩
 refine rnT ?_
 refine CW.cond rfl (fun h1=> ?_) (fun h2=> ?_)
 ·refine rnT ?_
  refine rt1 rfl ⟨c1.step c2,?_⟩
  unfold res1
  cases hq:dec (NameOK keys11 s) with
  | true=>rw [hq] at h1; simp at h1
  | false=>rfl
 ·refine rnT ?_
  refine rt1 rfl ⟨c1.step c2,?_⟩
  unfold res1
  cases hq:dec (NameOK keys11 s) with
  | true=>rfl
  | false=>rw [hq] at h2; simp at h2
theorem ru2Off_c (hB:Blk w g8 188 [.func (.func kn) #[] capn.toArray]) (hen:enters Tryz.prog kn=true) (hn: ∀j x,nm[j]?=some x→NameF w kn capn j x) (hs:nm[i]?=some s) (hi:i≤1000000) :
  Gives Tryz.prog 200 #[.int .i64 (i:Int),.pointer (some ⟨g8,0,none⟩)] w fun u w'=>Below w.heap.size w w'∧u= .int .i64 (res2 nm i s):=by
 refine gv (f:=200) ?_
 refine rnT ?_
 refine CW.lp [0,1,5] (fun k:Nat=> [(6,none,.int .i64 (k:Int))])
  (fun k W=>k≤i∧Below w.heap.size w W∧s ∉ nm.take k) (fun k=>i-k) 0 ⟨Nat.zero_le _,Below.refl _ _,by simp⟩ ?_
 rintro k W ⟨hk,hW,hno⟩
 have hil:=(List.getElem?_eq_some_iff.1 hs).1
 refine rnT ?_
 refine CW.condP rfl (fun hlt=> ?_) (fun hge=> ?_)
 ·obtain ⟨x,hx,hxm⟩:=getx (l:=nm) (k:=k) (by omega)
  have hBW:=hB.next hW
  refine rnT ?_
  refine CW.draw mixed (by kernel_rfl) ?_
  refine DW.ld rfl (hBW.cell 0) ?_
  refine rnD ?_
  refine DW.call (.ex (.string x)) trivial rfl rfl hen rfl ct (DArgs.cons rfl ct DArgs.nil) (fun _ w' hb'=>hn k x hx w' (hW.step hb')) ?_
  refine DW.ld rfl (hBW.cell 0) ?_
  refine rnD ?_
  refine DW.call (.ex (.string s)) trivial rfl rfl hen rfl ct (DArgs.cons rfl ct DArgs.nil) (fun _ w' hb'=>hn i s hs w' (hW.step hb')) ?_
  refine rnD ?_
  rw [beqL]
  refine DW.fi [0,1,4,5,6,15] rfl fun w3 b3=> ?_
  refine KW.then_ ?_
  refine CW.cond rfl (fun heq=> ?_) (fun hne=> ?_)
  ·refine rnT ?_
   refine rt1 rfl ⟨hW.step b3,?_⟩
   have hxs:x=s:=of_decide_eq_true heq
   subst hxs
   unfold res2
   rw [dec_pos (List.mem_of_getElem? (i:=k) (by rw [List.getElem?_take_of_lt (by omega)]; exact hx))]
   rfl
  ·refine rnT ?_
   refine KW.rd (k+1) ⟨by omega,hW.step b3,fun h=> ?_⟩
   rw [List.take_add_one,hx] at h
   rcases List.mem_append.1 h with h|h
   ·exact hno h
   ·simp at h
    exact of_decide_eq_false hne h.symm
 ·refine rnT ?_
  refine rt1 rfl ⟨hW,?_⟩
  have:k=i:=by omega
  subst this
  unfold res2
  rw [dec_neg hno]
  rfl
theorem ru3Off_c {v:Value} {l:List Of} {x:Of} {G:Of→Prop} (hB9:Blk w g9 194 [.func (.func kg) #[] capg.toArray]) (hB7:Blk w g7 25 [v]) (hen:enters Tryz.prog kg=true) (hl:SL ofT F w v l) (hx:l[i]?=some x)
 (hg: ∀cs W,Below w.heap.size w W→ofT.rep F W cs x→Gives Tryz.prog kg (.agg cs.toArray::capg).toArray W fun u W'=>Below W.heap.size W W'∧u= .bool (dec (G x))) :
  Gives Tryz.prog 201 #[.int .i64 (i:Int),.pointer (some ⟨g9,0,none⟩),.pointer (some ⟨g7,0,none⟩)] w fun u w'=>Below w.heap.size w w'∧u= .int .i64 (res3 G x):=by
 obtain ⟨A,cap,rfl,_⟩:=hl.form
 have hil:=(List.getElem?_eq_some_iff.1 hx).1
 have hmax:=hl.len.2.2
 obtain ⟨ad,rfl⟩:=hl.addr (by omega)
 obtain ⟨ad',cs,e1,hF,hrep,hc⟩:=hl.at hx
 cases e1
 have hrep0:=hrep
 obtain ⟨zv,rfl,zz⟩:=hrep
 refine gv (f:=201) ?_
 refine rnT ?_
 refine CW.draw mixed (by kernel_rfl) ?_
 refine DW.ld rfl (hB9.cell 0) ?_
 refine DW.ld rfl (hB7.cell 0) ?_
 refine rnD ?_
 refine DW.ldS rfl (hc) ?_
 refine DW.call (.ex (.bool (dec (G x)))) trivial rfl rfl hen rfl ct (DArgs.cons rfl ct DArgs.nil) (fun _ w' hb'=>hg _ w' hb' (ofT.mono _ _ _ _ _ (Kept.of_below hb') hrep0)) ?_
 refine rnD ?_
 refine DW.fi [0,1,2,4,11] rfl fun w3 b3=> ?_
 refine KW.then_ ?_
 refine CW.cond rfl (fun h1=> ?_) (fun h2=> ?_)
 ·refine rnT ?_
  refine rt1 rfl ⟨b3,?_⟩
  unfold res3
  cases hq:dec (G x) with
  | true=>rw [hq] at h1; simp at h1
  | false=>rfl
 ·refine rnT ?_
  refine rt1 rfl ⟨b3,?_⟩
  unfold res3
  cases hq:dec (G x) with
  | true=>rfl
  | false=>rw [hq] at h2; simp at h2
theorem checkOff_c {v:Value} {l:List Of} {G:Of→Prop} (ht:Tabs w) (hl:SL ofT F w v l) (hen:enters Tryz.prog kn=true) (heg:enters Tryz.prog kg=true) (hlim:lim≤1000)
 (hnl:nm.length=l.length) (hn: ∀j x,nm[j]?=some x→NameF w kn capn j x) (hg: ∀(i:Nat) (x:Of),l[i]?=some x→ ∀cs W,Below w.heap.size w W→ofT.rep F W cs x→Gives Tryz.prog kg (.agg cs.toArray::capg).toArray W fun u W'=>Below W.heap.size W W'∧u= .bool (dec (G x))) :
    Gives Tryz.prog 124 #[.int .i64 kd,.int .i64 (lim:Int),v,.func (.func kn) #[] capn.toArray,.func (.func kg) #[] capg.toArray] w fun u w'=>Below w.heap.size w w'∧ ∃n,FRow w' w.heap.size u n∧n≤lim+1∧(n=0↔KindOK keys11 lim nm l G):=by
  obtain ⟨A,cap,rfl,_⟩:=hl.form
  have hmax:=hl.len.2.2
  refine gv (f:=124) ?_
  refine rnT ?_
  refine TW.box rfl rfl rfl rfl ?_
  rintro g7 w7 f7
  refine TW.box rfl rfl rfl rfl ?_
  rintro g8 w8 f8
  refine TW.box rfl rfl rfl rfl ?_
  rintro g9 w9 f9
  refine rnT ?_
  refine TW.makeFunc rfl rfl (Args.cons rfl ct Args.nil) ?_
  refine TW.makeFunc rfl rfl (Args.cons rfl ct Args.nil) ?_
  refine TW.makeFunc rfl rfl (Args.cons rfl ct (Args.cons rfl ct Args.nil)) ?_
  have hB7:=(f7.blk.next f8.below).next f9.below
  have hB8:=f8.blk.next f9.below
  have hB9:=f9.blk
  have b9:=(f7.below.step f8.below).step f9.below
  refine TW.build [0,1,2] _ [.func (.func 199) #[] #[.pointer (some ⟨g8,0,none⟩)],.func (.func 200) #[] #[.pointer (some ⟨g8,0,none⟩)],.func (.func 201) #[] #[.pointer (some ⟨g9,0,none⟩),.pointer (some ⟨g7,0,none⟩)]] rfl rfl rfl (Args.cons rfl ct (Args.cons rfl ct (Args.cons rfl ct Args.nil))) (by kernel_rfl) ?_
  refine TW.newVar rfl zc251 rfl sz251 rfl rfl ?_
  rintro g11 w11 f11
  refine rnT ?_
  have hB7:=(hB7.next f11.below)
  have hB8:=(hB8.next f11.below)
  have hB9:=(hB9.next f11.below)
  have hB11:=f11.blk
  have b11:=b9.step f11.below
  refine TW.ld rfl (hB7.cell 0) ?_
  refine rnT ?_
  refine TW.v V.minI rfl ⟨ct,ct,trivial⟩ (fun _=>trivial) ?_
  refine rnT ?_
  refine CW.lp [0,1,7,11,24] (fun z:Nat×Value×Nat=> [(12,none,z.2.1),(25,none,.int .i64 (z.1:Int))])
    (fun z W=>z.1≤min l.length lim∧Below w11.heap.size w11 W∧FRow W w11.heap.size z.2.1 z.2.2∧z.2.2≤z.1∧(z.2.2=0↔ ∀j,j<z.1→GoodAt nm l G j)) (fun z=>min l.length lim-z.1) (0,.slice none 0 0,0) ⟨Nat.zero_le _,Below.refl _ _,FRow.nil _ _,Nat.le_refl _,⟨fun _ j hj=>by omega,fun _=>rfl⟩⟩ ?_
  rintro ⟨i,fv,n⟩ W ⟨hi,hW,⟨zs,hO,h2,h3⟩,hni,hgd⟩
  dsimp only at hi hO h3 hni hgd
  have hbW:=b11.step hW
  refine rnT ?_
  refine CW.pk [0,1,7,11,12,24,25,26] rfl ?_
  refine CW.condP rfl (fun hlt=> ?_) (fun hge=> ?_)
  · obtain ⟨x,hx,hxm⟩:=getx (l:=l) (k:=i) (by omega)
    obtain ⟨s,hs,hsm⟩:=getx (l:=nm) (k:=i) (by omega)
    have hB11W:=hB11.next hW
    refine rnT ?_
    refine TW.loadA _ rfl rfl Tryz.underlying251 sz251 rfl ct (fun _=>(fun _ _ hv=>hB11W.fld hv)) rfl ?_
    refine rnT ?_
    refine CW.lp [0,1,7,11,12,13,24,25,28] (fun k:Nat=> [(29,none,.int .i64 (k:Int))])
      (fun k W'=>k≤3∧Below W.heap.size W W'∧(0<k→res1 s=0)∧(1<k→res2 nm i s=0)∧(2<k→res3 G x=0)) (fun k=>3-k) 0 ⟨Nat.zero_le _,Below.refl _ _,fun h=>by omega,fun h=>by omega,fun h=>by omega⟩ ?_
    rintro k W' ⟨hk,hW',hr1,hr2,hr3⟩
    have hbW':=hbW.step hW'
    have hnW: ∀j y,nm[j]?=some y→NameF W' kn capn j y:=fun j y hj=>(hn j y hj).below hbW'
    have hB7':=hB7.next (hW.step hW')
    have hB8':=hB8.next (hW.step hW')
    have hB9':=hB9.next (hW.step hW')
    have hlW:=hl.below hbW'
    refine rnT ?_
    refine CW.condP rfl (fun hlt3=> ?_) (fun hge3=> ?_)
    · have hk3:k<3:=by omega
      refine CW.skip (KW.then_ (CW.seq (CW.block (CW.seq (CW.region ?_)))))
      obtain ⟨kf,cp,r,hkf,hen',hcl,z1,z2,z3⟩: ∃(kf:Nat) (cp:List Value) (r:Int),[Value.func (.func 199) #[] #[.pointer (some ⟨g8,0,none⟩)],.func (.func 200) #[] #[.pointer (some ⟨g8,0,none⟩)],.func (.func 201) #[] #[.pointer (some ⟨g9,0,none⟩),.pointer (some ⟨g7,0,none⟩)]][((k:Nat):Int).toNat]?=some (.func (.func kf) #[] cp.toArray)∧enters Tryz.prog kf=true∧Gives Tryz.prog kf (.int .i64 (i:Int)::cp).toArray W' (fun u w'=>Below W'.heap.size W' w'∧u= .int .i64 r)∧(k=0→r=res1 s)∧(k=1→r=res2 nm i s)∧(k=2→r=res3 G x):=by
        obtain rfl|rfl|rfl:k=0∨k=1∨k=2:=by omega
        · exact ⟨_,[_],_,rfl,en199,ru1Off_c (ht.below hbW') hB8' hen (hnW i s hs),fun _=>rfl,fun h=>by omega,fun h=>by omega⟩
        · exact ⟨_,[_],_,rfl,en200,ru2Off_c hB8' hen hnW hs (by omega),fun h=>by omega,fun _=>rfl,fun h=>by omega⟩
        · exact ⟨_,[_,_],_,rfl,en201,ru3Off_c hB9' hB7' heg hlW hx (fun cs X hX hr=>hg i x hx cs X (hbW'.step hX) hr),fun h=>by omega,fun h=>by omega,fun _=>rfl⟩
      refine TW.indexV rfl rfl Tryz.underlying251 one250 sz250 rfl ct rfl ct (fun _=>by (try dsimp only); omega) (fun _=>hkf) ?_
      refine rnT ?_
      refine TW.call0 rfl rfl hen' rfl (Args.cons rfl ct Args.nil) (hcl) ?_
      rintro y1 w1 ⟨c1,rfl⟩
      refine rnT ?_
      refine CW.cond rfl (fun hne=> ?_) (fun heq=> ?_)
      · have hbad:r≠0:=by simpa using hne
        refine rnT ?_
        refine TW.build [0,1,2] _ [.int .i64 kd,.int .i64 (i:Int),.int .i64 r] rfl rfl rfl (Args.cons rfl ct (Args.cons rfl ct (Args.cons rfl ct Args.nil))) (by kernel_rfl) ?_
        refine TW.buildSlice 167 _ rfl rfl rfl eo85 (Args.cons rfl ct Args.nil) rfl rfl rfl rfl rfl ?_
        rintro g2 w2 f2
        have hW1:=(hW.step hW').step c1
        refine TW.append [.int .i64 kd,.int .i64 (i:Int),.int .i64 r] rfl rfl go85 rfl (((hO.below hW').below c1).below f2.below) rfl rfl (fun j u hj=>⟨_,rfl,f2.blk.fld hj⟩) (fun u hu=>by simp at hu; rcases hu with rfl|rfl|rfl<;>rfl) (by omega) (by omega) ?_
        rintro fv' w3 hO3 hg3 hn3
        refine rnT ?_
        have hW2:=hW1.step f2.below
        refine KW.rd (i+1,fv',n+1) ⟨by show i+1≤_; omega,hW2.grown hg3 hW2.size h3,FRow.app (w:=w2) h3 h2 (fun u hu=>by simp at hu; rcases hu with rfl|rfl|rfl<;>rfl) hO3 hn3 hW2.size,by show n+1≤i+1; omega,⟨fun h=>absurd h (Nat.succ_ne_zero n),fun h=> ?_⟩⟩
        obtain ⟨q1,q2,q3⟩:=(goodAt_iff hx hs).1 (h i (by show i<i+1; omega))
        exact absurd (show r = 0 by obtain h | h | h : k = 0 ∨ k = 1 ∨ k = 2 := by omega
                                    · rw [z1 h,q1]
                                    · rw [z2 h,q2]
                                    · rw [z3 h,q3]) hbad
      · have hgood:r=0:=by simpa using heq
        refine rnT ?_
        refine KW.rd (k+1) ⟨by omega,hW'.step c1,fun _=> ?_,fun _=> ?_,fun _=> ?_⟩
        · by_cases h:k=0
          · rw [←z1 h,hgood]
          · exact hr1 (by omega)
        · by_cases h:k=1
          · rw [←z2 h,hgood]
          · exact hr2 (by omega)
        · by_cases h:k=2
          · rw [←z3 h,hgood]
          · exact hr3 (by omega)
    · have hk3:k=3:=by omega
      subst hk3
      refine rnT ?_
      refine KW.rd (i+1,fv,n) ⟨by show i+1≤_; omega,hW.step hW',⟨zs,hO.below hW',h2,h3⟩,by show n≤i+1; omega,?_⟩
      show n=0↔ ∀j,j<i+1→GoodAt nm l G j
      rw [hgd]
      refine ⟨fun h j hj=> ?_,fun h j hj=>h j (by omega)⟩
      rcases Nat.lt_or_ge j i with h'|h'
      · exact h j h'
      · have:j=i:=by omega
        subst this
        exact (goodAt_iff hx hs).2 ⟨hr1 (by omega),hr2 (by omega),hr3 (by omega)⟩
  have hie:i=min l.length lim:=by omega
  have h3: ∀g,fv.ownBlock=some g→w.heap.size≤g:=fun g hg=>Nat.le_trans b11.size (h3 g hg)
  refine rnT ?_
  refine TW.ld rfl ((hB7.next hW).cell 0) ?_
  refine rnT ?_
  refine CW.pk [0,1,7,11,12,24,25,49] rfl ?_
  refine CW.condP rfl (fun hbig=> ?_) (fun hsmall=> ?_)
  · refine rnT ?_
    refine TW.build [0,1,2] _ [.int .i64 kd,.int .i64 (lim:Int),.int .i64 2] rfl rfl rfl (Args.cons rfl ct (Args.cons rfl ct (Args.cons rfl ct Args.nil))) (by kernel_rfl) ?_
    refine TW.buildSlice 167 _ rfl rfl rfl eo85 (Args.cons rfl ct Args.nil) rfl rfl rfl rfl rfl ?_
    rintro g2 w2 f2
    refine TW.append [.int .i64 kd,.int .i64 (lim:Int),.int .i64 2] rfl rfl go85 rfl (hO.below f2.below) rfl rfl (fun j u hj=>⟨_,rfl,f2.blk.fld hj⟩) (fun u hu=>by simp at hu; rcases hu with rfl|rfl|rfl<;>rfl) (by omega) (by omega) ?_
    rintro fv' w3 hO3 hg3 hn3
    refine rnT ?_
    have hb2:=hbW.step f2.below
    refine rt1 rfl ⟨hb2.grown hg3 hb2.size (fun q hq=>h3 q hq),n+1,FRow.app (w:=w2) h3 h2 (fun u hu=>by simp at hu; rcases hu with rfl|rfl|rfl<;>rfl) hO3 hn3 hb2.size,by omega,⟨fun h=>by omega,fun h=> ?_⟩⟩
    have:=h.few
    omega
  · refine rnT ?_
    refine rt1 rfl ⟨hbW,n,⟨zs,hO,h2,h3⟩,by omega,?_⟩
    rw [kind_iff hnl,hgd,hie]
    exact ⟨fun h=>⟨by omega,h⟩,fun h=>h.2⟩
theorem ru1Lin_c (ht:Tabs w) (hB:Blk w g8 188 [.func (.func kn) #[] capn.toArray]) (hen:enters Tryz.prog kn=true) (hn:NameF w kn capn i s) :
  Gives Tryz.prog 206 #[.int .i64 (i:Int),.pointer (some ⟨g8,0,none⟩)] w fun u w'=>Below w.heap.size w w'∧u= .int .i64 (res1 s):=by
 refine gv (f:=206) ?_
 refine rnT ?_
 refine TW.ld rfl (hB.cell 0) ?_
 refine rnT ?_
 refine TW.call0 rfl rfl hen rfl (Args.cons rfl ct Args.nil) (hn w (Below.refl _ _)) ?_
 rintro y1 w1 ⟨c1,rfl⟩
 refine TW.cl rfl (isName_c (ht.below c1)) ?_
 rintro y2 w2 ⟨c2,rfl⟩
 refine rnT ?_
 refine CW.cond rfl (fun h1=> ?_) (fun h2=> ?_)
 ·refine rnT ?_
  refine rt1 rfl ⟨c1.step c2,?_⟩
  unfold res1
  cases hq:dec (NameOK keys11 s) with
  | true=>rw [hq] at h1; simp at h1
  | false=>rfl
 ·refine rnT ?_
  refine rt1 rfl ⟨c1.step c2,?_⟩
  unfold res1
  cases hq:dec (NameOK keys11 s) with
  | true=>rfl
  | false=>rw [hq] at h2; simp at h2
theorem ru2Lin_c (hB:Blk w g8 188 [.func (.func kn) #[] capn.toArray]) (hen:enters Tryz.prog kn=true) (hn: ∀j x,nm[j]?=some x→NameF w kn capn j x) (hs:nm[i]?=some s) (hi:i≤1000000) :
  Gives Tryz.prog 207 #[.int .i64 (i:Int),.pointer (some ⟨g8,0,none⟩)] w fun u w'=>Below w.heap.size w w'∧u= .int .i64 (res2 nm i s):=by
 refine gv (f:=207) ?_
 refine rnT ?_
 refine CW.lp [0,1,5] (fun k:Nat=> [(6,none,.int .i64 (k:Int))])
  (fun k W=>k≤i∧Below w.heap.size w W∧s ∉ nm.take k) (fun k=>i-k) 0 ⟨Nat.zero_le _,Below.refl _ _,by simp⟩ ?_
 rintro k W ⟨hk,hW,hno⟩
 have hil:=(List.getElem?_eq_some_iff.1 hs).1
 refine rnT ?_
 refine CW.condP rfl (fun hlt=> ?_) (fun hge=> ?_)
 ·obtain ⟨x,hx,hxm⟩:=getx (l:=nm) (k:=k) (by omega)
  have hBW:=hB.next hW
  refine rnT ?_
  refine CW.draw mixed (by kernel_rfl) ?_
  refine DW.ld rfl (hBW.cell 0) ?_
  refine rnD ?_
  refine DW.call (.ex (.string x)) trivial rfl rfl hen rfl ct (DArgs.cons rfl ct DArgs.nil) (fun _ w' hb'=>hn k x hx w' (hW.step hb')) ?_
  refine DW.ld rfl (hBW.cell 0) ?_
  refine rnD ?_
  refine DW.call (.ex (.string s)) trivial rfl rfl hen rfl ct (DArgs.cons rfl ct DArgs.nil) (fun _ w' hb'=>hn i s hs w' (hW.step hb')) ?_
  refine rnD ?_
  rw [beqL]
  refine DW.fi [0,1,4,5,6,15] rfl fun w3 b3=> ?_
  refine KW.then_ ?_
  refine CW.cond rfl (fun heq=> ?_) (fun hne=> ?_)
  ·refine rnT ?_
   refine rt1 rfl ⟨hW.step b3,?_⟩
   have hxs:x=s:=of_decide_eq_true heq
   subst hxs
   unfold res2
   rw [dec_pos (List.mem_of_getElem? (i:=k) (by rw [List.getElem?_take_of_lt (by omega)]; exact hx))]
   rfl
  ·refine rnT ?_
   refine KW.rd (k+1) ⟨by omega,hW.step b3,fun h=> ?_⟩
   rw [List.take_add_one,hx] at h
   rcases List.mem_append.1 h with h|h
   ·exact hno h
   ·simp at h
    exact of_decide_eq_false hne h.symm
 ·refine rnT ?_
  refine rt1 rfl ⟨hW,?_⟩
  have:k=i:=by omega
  subst this
  unfold res2
  rw [dec_neg hno]
  rfl
theorem ru3Lin_c {v:Value} {l:List Li} {x:Li} {G:Li→Prop} (hB9:Blk w g9 197 [.func (.func kg) #[] capg.toArray]) (hB7:Blk w g7 26 [v]) (hen:enters Tryz.prog kg=true) (hl:SL liT F w v l) (hx:l[i]?=some x)
 (hg: ∀cs W,Below w.heap.size w W→liT.rep F W cs x→Gives Tryz.prog kg (.agg cs.toArray::capg).toArray W fun u W'=>Below W.heap.size W W'∧u= .bool (dec (G x))) :
  Gives Tryz.prog 208 #[.int .i64 (i:Int),.pointer (some ⟨g9,0,none⟩),.pointer (some ⟨g7,0,none⟩)] w fun u w'=>Below w.heap.size w w'∧u= .int .i64 (res3 G x):=by
 obtain ⟨A,cap,rfl,_⟩:=hl.form
 have hil:=(List.getElem?_eq_some_iff.1 hx).1
 have hmax:=hl.len.2.2
 obtain ⟨ad,rfl⟩:=hl.addr (by omega)
 obtain ⟨ad',cs,e1,hF,hrep,hc⟩:=hl.at hx
 cases e1
 have hrep0:=hrep
 obtain ⟨rfl,zz⟩:=hrep
 refine gv (f:=208) ?_
 refine rnT ?_
 refine CW.draw mixed (by kernel_rfl) ?_
 refine DW.ld rfl (hB9.cell 0) ?_
 refine DW.ld rfl (hB7.cell 0) ?_
 refine rnD ?_
 refine DW.ldS rfl (hc) ?_
 refine DW.call (.ex (.bool (dec (G x)))) trivial rfl rfl hen rfl ct (DArgs.cons rfl ct DArgs.nil) (fun _ w' hb'=>hg _ w' hb' (liT.mono _ _ _ _ _ (Kept.of_below hb') hrep0)) ?_
 refine rnD ?_
 refine DW.fi [0,1,2,4,11] rfl fun w3 b3=> ?_
 refine KW.then_ ?_
 refine CW.cond rfl (fun h1=> ?_) (fun h2=> ?_)
 ·refine rnT ?_
  refine rt1 rfl ⟨b3,?_⟩
  unfold res3
  cases hq:dec (G x) with
  | true=>rw [hq] at h1; simp at h1
  | false=>rfl
 ·refine rnT ?_
  refine rt1 rfl ⟨b3,?_⟩
  unfold res3
  cases hq:dec (G x) with
  | true=>rfl
  | false=>rw [hq] at h2; simp at h2
theorem checkLin_c {v:Value} {l:List Li} {G:Li→Prop} (ht:Tabs w) (hl:SL liT F w v l) (hen:enters Tryz.prog kn=true) (heg:enters Tryz.prog kg=true) (hlim:lim≤1000)
 (hnl:nm.length=l.length) (hn: ∀j x,nm[j]?=some x→NameF w kn capn j x) (hg: ∀(i:Nat) (x:Li),l[i]?=some x→ ∀cs W,Below w.heap.size w W→liT.rep F W cs x→Gives Tryz.prog kg (.agg cs.toArray::capg).toArray W fun u W'=>Below W.heap.size W W'∧u= .bool (dec (G x))) :
    Gives Tryz.prog 128 #[.int .i64 kd,.int .i64 (lim:Int),v,.func (.func kn) #[] capn.toArray,.func (.func kg) #[] capg.toArray] w fun u w'=>Below w.heap.size w w'∧ ∃n,FRow w' w.heap.size u n∧n≤lim+1∧(n=0↔KindOK keys11 lim nm l G):=by
  obtain ⟨A,cap,rfl,_⟩:=hl.form
  have hmax:=hl.len.2.2
  refine gv (f:=128) ?_
  refine rnT ?_
  refine TW.box rfl rfl rfl rfl ?_
  rintro g7 w7 f7
  refine TW.box rfl rfl rfl rfl ?_
  rintro g8 w8 f8
  refine TW.box rfl rfl rfl rfl ?_
  rintro g9 w9 f9
  refine rnT ?_
  refine TW.makeFunc rfl rfl (Args.cons rfl ct Args.nil) ?_
  refine TW.makeFunc rfl rfl (Args.cons rfl ct Args.nil) ?_
  refine TW.makeFunc rfl rfl (Args.cons rfl ct (Args.cons rfl ct Args.nil)) ?_
  have hB7:=(f7.blk.next f8.below).next f9.below
  have hB8:=f8.blk.next f9.below
  have hB9:=f9.blk
  have b9:=(f7.below.step f8.below).step f9.below
  refine TW.build [0,1,2] _ [.func (.func 206) #[] #[.pointer (some ⟨g8,0,none⟩)],.func (.func 207) #[] #[.pointer (some ⟨g8,0,none⟩)],.func (.func 208) #[] #[.pointer (some ⟨g9,0,none⟩),.pointer (some ⟨g7,0,none⟩)]] rfl rfl rfl (Args.cons rfl ct (Args.cons rfl ct (Args.cons rfl ct Args.nil))) (by kernel_rfl) ?_
  refine TW.newVar rfl zc251 rfl sz251 rfl rfl ?_
  rintro g11 w11 f11
  refine rnT ?_
  have hB7:=(hB7.next f11.below)
  have hB8:=(hB8.next f11.below)
  have hB9:=(hB9.next f11.below)
  have hB11:=f11.blk
  have b11:=b9.step f11.below
  refine TW.ld rfl (hB7.cell 0) ?_
  refine rnT ?_
  refine TW.v V.minI rfl ⟨ct,ct,trivial⟩ (fun _=>trivial) ?_
  refine rnT ?_
  refine CW.lp [0,1,7,11,24] (fun z:Nat×Value×Nat=> [(12,none,z.2.1),(25,none,.int .i64 (z.1:Int))])
    (fun z W=>z.1≤min l.length lim∧Below w11.heap.size w11 W∧FRow W w11.heap.size z.2.1 z.2.2∧z.2.2≤z.1∧(z.2.2=0↔ ∀j,j<z.1→GoodAt nm l G j)) (fun z=>min l.length lim-z.1) (0,.slice none 0 0,0) ⟨Nat.zero_le _,Below.refl _ _,FRow.nil _ _,Nat.le_refl _,⟨fun _ j hj=>by omega,fun _=>rfl⟩⟩ ?_
  rintro ⟨i,fv,n⟩ W ⟨hi,hW,⟨zs,hO,h2,h3⟩,hni,hgd⟩
  dsimp only at hi hO h3 hni hgd
  have hbW:=b11.step hW
  refine rnT ?_
  refine CW.pk [0,1,7,11,12,24,25,26] rfl ?_
  refine CW.condP rfl (fun hlt=> ?_) (fun hge=> ?_)
  · obtain ⟨x,hx,hxm⟩:=getx (l:=l) (k:=i) (by omega)
    obtain ⟨s,hs,hsm⟩:=getx (l:=nm) (k:=i) (by omega)
    have hB11W:=hB11.next hW
    refine rnT ?_
    refine TW.loadA _ rfl rfl Tryz.underlying251 sz251 rfl ct (fun _=>(fun _ _ hv=>hB11W.fld hv)) rfl ?_
    refine rnT ?_
    refine CW.lp [0,1,7,11,12,13,24,25,28] (fun k:Nat=> [(29,none,.int .i64 (k:Int))])
      (fun k W'=>k≤3∧Below W.heap.size W W'∧(0<k→res1 s=0)∧(1<k→res2 nm i s=0)∧(2<k→res3 G x=0)) (fun k=>3-k) 0 ⟨Nat.zero_le _,Below.refl _ _,fun h=>by omega,fun h=>by omega,fun h=>by omega⟩ ?_
    rintro k W' ⟨hk,hW',hr1,hr2,hr3⟩
    have hbW':=hbW.step hW'
    have hnW: ∀j y,nm[j]?=some y→NameF W' kn capn j y:=fun j y hj=>(hn j y hj).below hbW'
    have hB7':=hB7.next (hW.step hW')
    have hB8':=hB8.next (hW.step hW')
    have hB9':=hB9.next (hW.step hW')
    have hlW:=hl.below hbW'
    refine rnT ?_
    refine CW.condP rfl (fun hlt3=> ?_) (fun hge3=> ?_)
    · have hk3:k<3:=by omega
      refine CW.skip (KW.then_ (CW.seq (CW.block (CW.seq (CW.region ?_)))))
      obtain ⟨kf,cp,r,hkf,hen',hcl,z1,z2,z3⟩: ∃(kf:Nat) (cp:List Value) (r:Int),[Value.func (.func 206) #[] #[.pointer (some ⟨g8,0,none⟩)],.func (.func 207) #[] #[.pointer (some ⟨g8,0,none⟩)],.func (.func 208) #[] #[.pointer (some ⟨g9,0,none⟩),.pointer (some ⟨g7,0,none⟩)]][((k:Nat):Int).toNat]?=some (.func (.func kf) #[] cp.toArray)∧enters Tryz.prog kf=true∧Gives Tryz.prog kf (.int .i64 (i:Int)::cp).toArray W' (fun u w'=>Below W'.heap.size W' w'∧u= .int .i64 r)∧(k=0→r=res1 s)∧(k=1→r=res2 nm i s)∧(k=2→r=res3 G x):=by
        obtain rfl|rfl|rfl:k=0∨k=1∨k=2:=by omega
        · exact ⟨_,[_],_,rfl,en206,ru1Lin_c (ht.below hbW') hB8' hen (hnW i s hs),fun _=>rfl,fun h=>by omega,fun h=>by omega⟩
        · exact ⟨_,[_],_,rfl,en207,ru2Lin_c hB8' hen hnW hs (by omega),fun h=>by omega,fun _=>rfl,fun h=>by omega⟩
        · exact ⟨_,[_,_],_,rfl,en208,ru3Lin_c hB9' hB7' heg hlW hx (fun cs X hX hr=>hg i x hx cs X (hbW'.step hX) hr),fun h=>by omega,fun h=>by omega,fun _=>rfl⟩
      refine TW.indexV rfl rfl Tryz.underlying251 one250 sz250 rfl ct rfl ct (fun _=>by (try dsimp only); omega) (fun _=>hkf) ?_
      refine rnT ?_
      refine TW.call0 rfl rfl hen' rfl (Args.cons rfl ct Args.nil) (hcl) ?_
      rintro y1 w1 ⟨c1,rfl⟩
      refine rnT ?_
      refine CW.cond rfl (fun hne=> ?_) (fun heq=> ?_)
      · have hbad:r≠0:=by simpa using hne
        refine rnT ?_
        refine TW.build [0,1,2] _ [.int .i64 kd,.int .i64 (i:Int),.int .i64 r] rfl rfl rfl (Args.cons rfl ct (Args.cons rfl ct (Args.cons rfl ct Args.nil))) (by kernel_rfl) ?_
        refine TW.buildSlice 167 _ rfl rfl rfl eo85 (Args.cons rfl ct Args.nil) rfl rfl rfl rfl rfl ?_
        rintro g2 w2 f2
        have hW1:=(hW.step hW').step c1
        refine TW.append [.int .i64 kd,.int .i64 (i:Int),.int .i64 r] rfl rfl go85 rfl (((hO.below hW').below c1).below f2.below) rfl rfl (fun j u hj=>⟨_,rfl,f2.blk.fld hj⟩) (fun u hu=>by simp at hu; rcases hu with rfl|rfl|rfl<;>rfl) (by omega) (by omega) ?_
        rintro fv' w3 hO3 hg3 hn3
        refine rnT ?_
        have hW2:=hW1.step f2.below
        refine KW.rd (i+1,fv',n+1) ⟨by show i+1≤_; omega,hW2.grown hg3 hW2.size h3,FRow.app (w:=w2) h3 h2 (fun u hu=>by simp at hu; rcases hu with rfl|rfl|rfl<;>rfl) hO3 hn3 hW2.size,by show n+1≤i+1; omega,⟨fun h=>absurd h (Nat.succ_ne_zero n),fun h=> ?_⟩⟩
        obtain ⟨q1,q2,q3⟩:=(goodAt_iff hx hs).1 (h i (by show i<i+1; omega))
        exact absurd (show r = 0 by obtain h | h | h : k = 0 ∨ k = 1 ∨ k = 2 := by omega
                                    · rw [z1 h,q1]
                                    · rw [z2 h,q2]
                                    · rw [z3 h,q3]) hbad
      · have hgood:r=0:=by simpa using heq
        refine rnT ?_
        refine KW.rd (k+1) ⟨by omega,hW'.step c1,fun _=> ?_,fun _=> ?_,fun _=> ?_⟩
        · by_cases h:k=0
          · rw [←z1 h,hgood]
          · exact hr1 (by omega)
        · by_cases h:k=1
          · rw [←z2 h,hgood]
          · exact hr2 (by omega)
        · by_cases h:k=2
          · rw [←z3 h,hgood]
          · exact hr3 (by omega)
    · have hk3:k=3:=by omega
      subst hk3
      refine rnT ?_
      refine KW.rd (i+1,fv,n) ⟨by show i+1≤_; omega,hW.step hW',⟨zs,hO.below hW',h2,h3⟩,by show n≤i+1; omega,?_⟩
      show n=0↔ ∀j,j<i+1→GoodAt nm l G j
      rw [hgd]
      refine ⟨fun h j hj=> ?_,fun h j hj=>h j (by omega)⟩
      rcases Nat.lt_or_ge j i with h'|h'
      · exact h j h'
      · have:j=i:=by omega
        subst this
        exact (goodAt_iff hx hs).2 ⟨hr1 (by omega),hr2 (by omega),hr3 (by omega)⟩
  have hie:i=min l.length lim:=by omega
  have h3: ∀g,fv.ownBlock=some g→w.heap.size≤g:=fun g hg=>Nat.le_trans b11.size (h3 g hg)
  refine rnT ?_
  refine TW.ld rfl ((hB7.next hW).cell 0) ?_
  refine rnT ?_
  refine CW.pk [0,1,7,11,12,24,25,49] rfl ?_
  refine CW.condP rfl (fun hbig=> ?_) (fun hsmall=> ?_)
  · refine rnT ?_
    refine TW.build [0,1,2] _ [.int .i64 kd,.int .i64 (lim:Int),.int .i64 2] rfl rfl rfl (Args.cons rfl ct (Args.cons rfl ct (Args.cons rfl ct Args.nil))) (by kernel_rfl) ?_
    refine TW.buildSlice 167 _ rfl rfl rfl eo85 (Args.cons rfl ct Args.nil) rfl rfl rfl rfl rfl ?_
    rintro g2 w2 f2
    refine TW.append [.int .i64 kd,.int .i64 (lim:Int),.int .i64 2] rfl rfl go85 rfl (hO.below f2.below) rfl rfl (fun j u hj=>⟨_,rfl,f2.blk.fld hj⟩) (fun u hu=>by simp at hu; rcases hu with rfl|rfl|rfl<;>rfl) (by omega) (by omega) ?_
    rintro fv' w3 hO3 hg3 hn3
    refine rnT ?_
    have hb2:=hbW.step f2.below
    refine rt1 rfl ⟨hb2.grown hg3 hb2.size (fun q hq=>h3 q hq),n+1,FRow.app (w:=w2) h3 h2 (fun u hu=>by simp at hu; rcases hu with rfl|rfl|rfl<;>rfl) hO3 hn3 hb2.size,by omega,⟨fun h=>by omega,fun h=> ?_⟩⟩
    have:=h.few
    omega
  · refine rnT ?_
    refine rt1 rfl ⟨hbW,n,⟨zs,hO,h2,h3⟩,by omega,?_⟩
    rw [kind_iff hnl,hgd,hie]
    exact ⟨fun h=>⟨by omega,h⟩,fun h=>h.2⟩
theorem ru1Cls_c (ht:Tabs w) (hB:Blk w g8 188 [.func (.func kn) #[] capn.toArray]) (hen:enters Tryz.prog kn=true) (hn:NameF w kn capn i s) :
  Gives Tryz.prog 209 #[.int .i64 (i:Int),.pointer (some ⟨g8,0,none⟩)] w fun u w'=>Below w.heap.size w w'∧u= .int .i64 (res1 s):=by
 refine gv (f:=209) ?_
 refine rnT ?_
 refine TW.ld rfl (hB.cell 0) ?_
 refine rnT ?_
 refine TW.call0 rfl rfl hen rfl (Args.cons rfl ct Args.nil) (hn w (Below.refl _ _)) ?_
 rintro y1 w1 ⟨c1,rfl⟩
 refine TW.cl rfl (isName_c (ht.below c1)) ?_
 rintro y2 w2 ⟨c2,rfl⟩
 refine rnT ?_
 refine CW.cond rfl (fun h1=> ?_) (fun h2=> ?_)
 ·refine rnT ?_
  refine rt1 rfl ⟨c1.step c2,?_⟩
  unfold res1
  cases hq:dec (NameOK keys11 s) with
  | true=>rw [hq] at h1; simp at h1
  | false=>rfl
 ·refine rnT ?_
  refine rt1 rfl ⟨c1.step c2,?_⟩
  unfold res1
  cases hq:dec (NameOK keys11 s) with
  | true=>rfl
  | false=>rw [hq] at h2; simp at h2
theorem ru2Cls_c (hB:Blk w g8 188 [.func (.func kn) #[] capn.toArray]) (hen:enters Tryz.prog kn=true) (hn: ∀j x,nm[j]?=some x→NameF w kn capn j x) (hs:nm[i]?=some s) (hi:i≤1000000) :
  Gives Tryz.prog 210 #[.int .i64 (i:Int),.pointer (some ⟨g8,0,none⟩)] w fun u w'=>Below w.heap.size w w'∧u= .int .i64 (res2 nm i s):=by
 refine gv (f:=210) ?_
 refine rnT ?_
 refine CW.lp [0,1,5] (fun k:Nat=> [(6,none,.int .i64 (k:Int))])
  (fun k W=>k≤i∧Below w.heap.size w W∧s ∉ nm.take k) (fun k=>i-k) 0 ⟨Nat.zero_le _,Below.refl _ _,by simp⟩ ?_
 rintro k W ⟨hk,hW,hno⟩
 have hil:=(List.getElem?_eq_some_iff.1 hs).1
 refine rnT ?_
 refine CW.condP rfl (fun hlt=> ?_) (fun hge=> ?_)
 ·obtain ⟨x,hx,hxm⟩:=getx (l:=nm) (k:=k) (by omega)
  have hBW:=hB.next hW
  refine rnT ?_
  refine CW.draw mixed (by kernel_rfl) ?_
  refine DW.ld rfl (hBW.cell 0) ?_
  refine rnD ?_
  refine DW.call (.ex (.string x)) trivial rfl rfl hen rfl ct (DArgs.cons rfl ct DArgs.nil) (fun _ w' hb'=>hn k x hx w' (hW.step hb')) ?_
  refine DW.ld rfl (hBW.cell 0) ?_
  refine rnD ?_
  refine DW.call (.ex (.string s)) trivial rfl rfl hen rfl ct (DArgs.cons rfl ct DArgs.nil) (fun _ w' hb'=>hn i s hs w' (hW.step hb')) ?_
  refine rnD ?_
  rw [beqL]
  refine DW.fi [0,1,4,5,6,15] rfl fun w3 b3=> ?_
  refine KW.then_ ?_
  refine CW.cond rfl (fun heq=> ?_) (fun hne=> ?_)
  ·refine rnT ?_
   refine rt1 rfl ⟨hW.step b3,?_⟩
   have hxs:x=s:=of_decide_eq_true heq
   subst hxs
   unfold res2
   rw [dec_pos (List.mem_of_getElem? (i:=k) (by rw [List.getElem?_take_of_lt (by omega)]; exact hx))]
   rfl
  ·refine rnT ?_
   refine KW.rd (k+1) ⟨by omega,hW.step b3,fun h=> ?_⟩
   rw [List.take_add_one,hx] at h
   rcases List.mem_append.1 h with h|h
   ·exact hno h
   ·simp at h
    exact of_decide_eq_false hne h.symm
 ·refine rnT ?_
  refine rt1 rfl ⟨hW,?_⟩
  have:k=i:=by omega
  subst this
  unfold res2
  rw [dec_neg hno]
  rfl
theorem ru3Cls_c {v:Value} {l:List Cla} {x:Cla} {G:Cla→Prop} (hB9:Blk w g9 201 [.func (.func kg) #[] capg.toArray]) (hB7:Blk w g7 27 [v]) (hen:enters Tryz.prog kg=true) (hl:SL claT F w v l) (hx:l[i]?=some x)
 (hg: ∀cs W,Below w.heap.size w W→claT.rep F W cs x→Gives Tryz.prog kg (.agg cs.toArray::capg).toArray W fun u W'=>Below W.heap.size W W'∧u= .bool (dec (G x))) :
  Gives Tryz.prog 211 #[.int .i64 (i:Int),.pointer (some ⟨g9,0,none⟩),.pointer (some ⟨g7,0,none⟩)] w fun u w'=>Below w.heap.size w w'∧u= .int .i64 (res3 G x):=by
 obtain ⟨A,cap,rfl,_⟩:=hl.form
 have hil:=(List.getElem?_eq_some_iff.1 hx).1
 have hmax:=hl.len.2.2
 obtain ⟨ad,rfl⟩:=hl.addr (by omega)
 obtain ⟨ad',cs,e1,hF,hrep,hc⟩:=hl.at hx
 cases e1
 have hrep0:=hrep
 obtain ⟨rfl,zz⟩:=hrep
 refine gv (f:=211) ?_
 refine rnT ?_
 refine CW.draw mixed (by kernel_rfl) ?_
 refine DW.ld rfl (hB9.cell 0) ?_
 refine DW.ld rfl (hB7.cell 0) ?_
 refine rnD ?_
 refine DW.ldS rfl (hc) ?_
 refine DW.call (.ex (.bool (dec (G x)))) trivial rfl rfl hen rfl ct (DArgs.cons rfl ct DArgs.nil) (fun _ w' hb'=>hg _ w' hb' (claT.mono _ _ _ _ _ (Kept.of_below hb') hrep0)) ?_
 refine rnD ?_
 refine DW.fi [0,1,2,4,11] rfl fun w3 b3=> ?_
 refine KW.then_ ?_
 refine CW.cond rfl (fun h1=> ?_) (fun h2=> ?_)
 ·refine rnT ?_
  refine rt1 rfl ⟨b3,?_⟩
  unfold res3
  cases hq:dec (G x) with
  | true=>rw [hq] at h1; simp at h1
  | false=>rfl
 ·refine rnT ?_
  refine rt1 rfl ⟨b3,?_⟩
  unfold res3
  cases hq:dec (G x) with
  | true=>rfl
  | false=>rw [hq] at h2; simp at h2
theorem checkCls_c {v:Value} {l:List Cla} {G:Cla→Prop} (ht:Tabs w) (hl:SL claT F w v l) (hen:enters Tryz.prog kn=true) (heg:enters Tryz.prog kg=true) (hlim:lim≤1000)
 (hnl:nm.length=l.length) (hn: ∀j x,nm[j]?=some x→NameF w kn capn j x) (hg: ∀(i:Nat) (x:Cla),l[i]?=some x→ ∀cs W,Below w.heap.size w W→claT.rep F W cs x→Gives Tryz.prog kg (.agg cs.toArray::capg).toArray W fun u W'=>Below W.heap.size W W'∧u= .bool (dec (G x))) :
    Gives Tryz.prog 132 #[.int .i64 kd,.int .i64 (lim:Int),v,.func (.func kn) #[] capn.toArray,.func (.func kg) #[] capg.toArray] w fun u w'=>Below w.heap.size w w'∧ ∃n,FRow w' w.heap.size u n∧n≤lim+1∧(n=0↔KindOK keys11 lim nm l G):=by
  obtain ⟨A,cap,rfl,_⟩:=hl.form
  have hmax:=hl.len.2.2
  refine gv (f:=132) ?_
  refine rnT ?_
  refine TW.box rfl rfl rfl rfl ?_
  rintro g7 w7 f7
  refine TW.box rfl rfl rfl rfl ?_
  rintro g8 w8 f8
  refine TW.box rfl rfl rfl rfl ?_
  rintro g9 w9 f9
  refine rnT ?_
  refine TW.makeFunc rfl rfl (Args.cons rfl ct Args.nil) ?_
  refine TW.makeFunc rfl rfl (Args.cons rfl ct Args.nil) ?_
  refine TW.makeFunc rfl rfl (Args.cons rfl ct (Args.cons rfl ct Args.nil)) ?_
  have hB7:=(f7.blk.next f8.below).next f9.below
  have hB8:=f8.blk.next f9.below
  have hB9:=f9.blk
  have b9:=(f7.below.step f8.below).step f9.below
  refine TW.build [0,1,2] _ [.func (.func 209) #[] #[.pointer (some ⟨g8,0,none⟩)],.func (.func 210) #[] #[.pointer (some ⟨g8,0,none⟩)],.func (.func 211) #[] #[.pointer (some ⟨g9,0,none⟩),.pointer (some ⟨g7,0,none⟩)]] rfl rfl rfl (Args.cons rfl ct (Args.cons rfl ct (Args.cons rfl ct Args.nil))) (by kernel_rfl) ?_
  refine TW.newVar rfl zc251 rfl sz251 rfl rfl ?_
  rintro g11 w11 f11
  refine rnT ?_
  have hB7:=(hB7.next f11.below)
  have hB8:=(hB8.next f11.below)
  have hB9:=(hB9.next f11.below)
  have hB11:=f11.blk
  have b11:=b9.step f11.below
  refine TW.ld rfl (hB7.cell 0) ?_
  refine rnT ?_
  refine TW.v V.minI rfl ⟨ct,ct,trivial⟩ (fun _=>trivial) ?_
  refine rnT ?_
  refine CW.lp [0,1,7,11,24] (fun z:Nat×Value×Nat=> [(12,none,z.2.1),(25,none,.int .i64 (z.1:Int))])
    (fun z W=>z.1≤min l.length lim∧Below w11.heap.size w11 W∧FRow W w11.heap.size z.2.1 z.2.2∧z.2.2≤z.1∧(z.2.2=0↔ ∀j,j<z.1→GoodAt nm l G j)) (fun z=>min l.length lim-z.1) (0,.slice none 0 0,0) ⟨Nat.zero_le _,Below.refl _ _,FRow.nil _ _,Nat.le_refl _,⟨fun _ j hj=>by omega,fun _=>rfl⟩⟩ ?_
  rintro ⟨i,fv,n⟩ W ⟨hi,hW,⟨zs,hO,h2,h3⟩,hni,hgd⟩
  dsimp only at hi hO h3 hni hgd
  have hbW:=b11.step hW
  refine rnT ?_
  refine CW.pk [0,1,7,11,12,24,25,26] rfl ?_
  refine CW.condP rfl (fun hlt=> ?_) (fun hge=> ?_)
  · obtain ⟨x,hx,hxm⟩:=getx (l:=l) (k:=i) (by omega)
    obtain ⟨s,hs,hsm⟩:=getx (l:=nm) (k:=i) (by omega)
    have hB11W:=hB11.next hW
    refine rnT ?_
    refine TW.loadA _ rfl rfl Tryz.underlying251 sz251 rfl ct (fun _=>(fun _ _ hv=>hB11W.fld hv)) rfl ?_
    refine rnT ?_
    refine CW.lp [0,1,7,11,12,13,24,25,28] (fun k:Nat=> [(29,none,.int .i64 (k:Int))])
      (fun k W'=>k≤3∧Below W.heap.size W W'∧(0<k→res1 s=0)∧(1<k→res2 nm i s=0)∧(2<k→res3 G x=0)) (fun k=>3-k) 0 ⟨Nat.zero_le _,Below.refl _ _,fun h=>by omega,fun h=>by omega,fun h=>by omega⟩ ?_
    rintro k W' ⟨hk,hW',hr1,hr2,hr3⟩
    have hbW':=hbW.step hW'
    have hnW: ∀j y,nm[j]?=some y→NameF W' kn capn j y:=fun j y hj=>(hn j y hj).below hbW'
    have hB7':=hB7.next (hW.step hW')
    have hB8':=hB8.next (hW.step hW')
    have hB9':=hB9.next (hW.step hW')
    have hlW:=hl.below hbW'
    refine rnT ?_
    refine CW.condP rfl (fun hlt3=> ?_) (fun hge3=> ?_)
    · have hk3:k<3:=by omega
      refine CW.skip (KW.then_ (CW.seq (CW.block (CW.seq (CW.region ?_)))))
      obtain ⟨kf,cp,r,hkf,hen',hcl,z1,z2,z3⟩: ∃(kf:Nat) (cp:List Value) (r:Int),[Value.func (.func 209) #[] #[.pointer (some ⟨g8,0,none⟩)],.func (.func 210) #[] #[.pointer (some ⟨g8,0,none⟩)],.func (.func 211) #[] #[.pointer (some ⟨g9,0,none⟩),.pointer (some ⟨g7,0,none⟩)]][((k:Nat):Int).toNat]?=some (.func (.func kf) #[] cp.toArray)∧enters Tryz.prog kf=true∧Gives Tryz.prog kf (.int .i64 (i:Int)::cp).toArray W' (fun u w'=>Below W'.heap.size W' w'∧u= .int .i64 r)∧(k=0→r=res1 s)∧(k=1→r=res2 nm i s)∧(k=2→r=res3 G x):=by
        obtain rfl|rfl|rfl:k=0∨k=1∨k=2:=by omega
        · exact ⟨_,[_],_,rfl,en209,ru1Cls_c (ht.below hbW') hB8' hen (hnW i s hs),fun _=>rfl,fun h=>by omega,fun h=>by omega⟩
        · exact ⟨_,[_],_,rfl,en210,ru2Cls_c hB8' hen hnW hs (by omega),fun h=>by omega,fun _=>rfl,fun h=>by omega⟩
        · exact ⟨_,[_,_],_,rfl,en211,ru3Cls_c hB9' hB7' heg hlW hx (fun cs X hX hr=>hg i x hx cs X (hbW'.step hX) hr),fun h=>by omega,fun h=>by omega,fun _=>rfl⟩
      refine TW.indexV rfl rfl Tryz.underlying251 one250 sz250 rfl ct rfl ct (fun _=>by (try dsimp only); omega) (fun _=>hkf) ?_
      refine rnT ?_
      refine TW.call0 rfl rfl hen' rfl (Args.cons rfl ct Args.nil) (hcl) ?_
      rintro y1 w1 ⟨c1,rfl⟩
      refine rnT ?_
      refine CW.cond rfl (fun hne=> ?_) (fun heq=> ?_)
      · have hbad:r≠0:=by simpa using hne
        refine rnT ?_
        refine TW.build [0,1,2] _ [.int .i64 kd,.int .i64 (i:Int),.int .i64 r] rfl rfl rfl (Args.cons rfl ct (Args.cons rfl ct (Args.cons rfl ct Args.nil))) (by kernel_rfl) ?_
        refine TW.buildSlice 167 _ rfl rfl rfl eo85 (Args.cons rfl ct Args.nil) rfl rfl rfl rfl rfl ?_
        rintro g2 w2 f2
        have hW1:=(hW.step hW').step c1
        refine TW.append [.int .i64 kd,.int .i64 (i:Int),.int .i64 r] rfl rfl go85 rfl (((hO.below hW').below c1).below f2.below) rfl rfl (fun j u hj=>⟨_,rfl,f2.blk.fld hj⟩) (fun u hu=>by simp at hu; rcases hu with rfl|rfl|rfl<;>rfl) (by omega) (by omega) ?_
        rintro fv' w3 hO3 hg3 hn3
        refine rnT ?_
        have hW2:=hW1.step f2.below
        refine KW.rd (i+1,fv',n+1) ⟨by show i+1≤_; omega,hW2.grown hg3 hW2.size h3,FRow.app (w:=w2) h3 h2 (fun u hu=>by simp at hu; rcases hu with rfl|rfl|rfl<;>rfl) hO3 hn3 hW2.size,by show n+1≤i+1; omega,⟨fun h=>absurd h (Nat.succ_ne_zero n),fun h=> ?_⟩⟩
        obtain ⟨q1,q2,q3⟩:=(goodAt_iff hx hs).1 (h i (by show i<i+1; omega))
        exact absurd (show r = 0 by obtain h | h | h : k = 0 ∨ k = 1 ∨ k = 2 := by omega
                                    · rw [z1 h,q1]
                                    · rw [z2 h,q2]
                                    · rw [z3 h,q3]) hbad
      · have hgood:r=0:=by simpa using heq
        refine rnT ?_
        refine KW.rd (k+1) ⟨by omega,hW'.step c1,fun _=> ?_,fun _=> ?_,fun _=> ?_⟩
        · by_cases h:k=0
          · rw [←z1 h,hgood]
          · exact hr1 (by omega)
        · by_cases h:k=1
          · rw [←z2 h,hgood]
          · exact hr2 (by omega)
        · by_cases h:k=2
          · rw [←z3 h,hgood]
          · exact hr3 (by omega)
    · have hk3:k=3:=by omega
      subst hk3
      refine rnT ?_
      refine KW.rd (i+1,fv,n) ⟨by show i+1≤_; omega,hW.step hW',⟨zs,hO.below hW',h2,h3⟩,by show n≤i+1; omega,?_⟩
      show n=0↔ ∀j,j<i+1→GoodAt nm l G j
      rw [hgd]
      refine ⟨fun h j hj=> ?_,fun h j hj=>h j (by omega)⟩
      rcases Nat.lt_or_ge j i with h'|h'
      · exact h j h'
      · have:j=i:=by omega
        subst this
        exact (goodAt_iff hx hs).2 ⟨hr1 (by omega),hr2 (by omega),hr3 (by omega)⟩
  have hie:i=min l.length lim:=by omega
  have h3: ∀g,fv.ownBlock=some g→w.heap.size≤g:=fun g hg=>Nat.le_trans b11.size (h3 g hg)
  refine rnT ?_
  refine TW.ld rfl ((hB7.next hW).cell 0) ?_
  refine rnT ?_
  refine CW.pk [0,1,7,11,12,24,25,49] rfl ?_
  refine CW.condP rfl (fun hbig=> ?_) (fun hsmall=> ?_)
  · refine rnT ?_
    refine TW.build [0,1,2] _ [.int .i64 kd,.int .i64 (lim:Int),.int .i64 2] rfl rfl rfl (Args.cons rfl ct (Args.cons rfl ct (Args.cons rfl ct Args.nil))) (by kernel_rfl) ?_
    refine TW.buildSlice 167 _ rfl rfl rfl eo85 (Args.cons rfl ct Args.nil) rfl rfl rfl rfl rfl ?_
    rintro g2 w2 f2
    refine TW.append [.int .i64 kd,.int .i64 (lim:Int),.int .i64 2] rfl rfl go85 rfl (hO.below f2.below) rfl rfl (fun j u hj=>⟨_,rfl,f2.blk.fld hj⟩) (fun u hu=>by simp at hu; rcases hu with rfl|rfl|rfl<;>rfl) (by omega) (by omega) ?_
    rintro fv' w3 hO3 hg3 hn3
    refine rnT ?_
    have hb2:=hbW.step f2.below
    refine rt1 rfl ⟨hb2.grown hg3 hb2.size (fun q hq=>h3 q hq),n+1,FRow.app (w:=w2) h3 h2 (fun u hu=>by simp at hu; rcases hu with rfl|rfl|rfl<;>rfl) hO3 hn3 hb2.size,by omega,⟨fun h=>by omega,fun h=> ?_⟩⟩
    have:=h.few
    omega
  · refine rnT ?_
    refine rt1 rfl ⟨hbW,n,⟨zs,hO,h2,h3⟩,by omega,?_⟩
    rw [kind_iff hnl,hgd,hie]
    exact ⟨fun h=>⟨by omega,h⟩,fun h=>h.2⟩
def calNm (N:Net):List ByteArray:=(List.range N.cals.length).map fun i=>N.names.getD i ⟨#[]⟩
theorem calNm_eq (h:N.names.length=N.cals.length):calNm N=N.names:=by
 unfold calNm
 apply List.ext_getElem?
 intro i
 rw [List.getElem?_map]
 rcases Nat.lt_or_ge i N.cals.length with hi|hi
 ·rw [List.getElem?_range hi]
  simp [List.getD_eq_getElem?_getD,List.getElem?_eq_getElem (show i<N.names.length by omega)]
 ·rw [List.getElem?_eq_none (by simpa using hi),List.getElem?_eq_none (by omega)]
  rfl
theorem inc1_c (hB:Blk w g 29 v.cells) (hN:NetIn F w v N):Gives Tryz.prog 117 #[.int .i64 (i:Int),.pointer (some ⟨g,0,none⟩)] w fun u w'=>Below w.heap.size w w'∧u= .string (N.names.getD i ⟨#[]⟩):=by
 obtain ⟨vc,vn,vo,vf,vl,vk⟩:=v
 have hn:=hN.n
 obtain ⟨A,c,e,_⟩:=hn.form
 dsimp only at e
 subst e
 refine gv (f:=117) ?_
 refine rnT ?_
 refine TW.ld rfl (hB.fld rfl) ?_
 refine rnT ?_
 refine CW.condP rfl (fun hlt=> ?_) (fun hge=> ?_)
 ·obtain ⟨s,hs,_⟩:=getx (l:=N.names) (k:=i) (by omega)
  obtain ⟨ad,rfl⟩:=hn.addr (by omega)
  refine rnT ?_
  refine TW.ld rfl (hB.fld rfl) ?_
  refine rnT ?_
  refine TW.ld rfl (hn.getT hs) ?_
  refine rnT ?_
  refine rt1 rfl ⟨Below.refl _ _,by rw [List.getD_eq_getElem?_getD,hs]; rfl⟩
 ·refine rnT ?_
  refine rt1 rfl ⟨Below.refl _ _,by rw [List.getD_eq_getElem?_getD,List.getElem?_eq_none (by omega)]; rfl⟩
theorem inc2_c (hB:Blk w g 29 v.cells) (hN:NetIn F w v N) {s:_} (hs:N.ops[i]?=some s):Gives Tryz.prog 120 #[.int .i64 (i:Int),.pointer (some ⟨g,0,none⟩)] w fun u w'=>Below w.heap.size w w'∧u= .string s:=by
 obtain ⟨vc,vn,vo,vf,vl,vk⟩:=v
 have hn:=hN.o
 obtain ⟨A,c,e,_⟩:=hn.form
 dsimp only at e
 subst e
 have hil:=(List.getElem?_eq_some_iff.1 hs).1
 obtain ⟨ad,rfl⟩:=hn.addr (by omega)
 obtain ⟨ad',cs,e1,hF,hrep,hc⟩:=hn.at hs
 cases e1
 obtain ⟨rfl,_⟩:=hrep
 refine gv (f:=120) ?_
 refine rnT ?_
 refine TW.ld rfl (hB.fld rfl) ?_
 refine rnT ?_
 refine TW.ld rfl (hc 0 _ rfl) ?_
 refine rnT ?_
 refine rt1 rfl ⟨Below.refl _ _,rfl⟩
theorem inc4_c (hB:Blk w g 29 v.cells) (hN:NetIn F w v N) {s:_} (hs:N.offs[i]?=some s):Gives Tryz.prog 123 #[.int .i64 (i:Int),.pointer (some ⟨g,0,none⟩)] w fun u w'=>Below w.heap.size w w'∧u= .string s.name:=by
 obtain ⟨vc,vn,vo,vf,vl,vk⟩:=v
 have hn:=hN.f
 obtain ⟨A,c,e,_⟩:=hn.form
 dsimp only at e
 subst e
 have hil:=(List.getElem?_eq_some_iff.1 hs).1
 obtain ⟨ad,rfl⟩:=hn.addr (by omega)
 obtain ⟨ad',cs,e1,hF,hrep,hc⟩:=hn.at hs
 cases e1
 obtain ⟨zv,rfl,_⟩:=hrep
 refine gv (f:=123) ?_
 refine rnT ?_
 refine TW.ld rfl (hB.fld rfl) ?_
 refine rnT ?_
 refine TW.ld rfl (hc 0 _ rfl) ?_
 refine rnT ?_
 refine rt1 rfl ⟨Below.refl _ _,rfl⟩
theorem inc6_c (hB:Blk w g 29 v.cells) (hN:NetIn F w v N) {s:_} (hs:N.lines[i]?=some s):Gives Tryz.prog 127 #[.int .i64 (i:Int),.pointer (some ⟨g,0,none⟩)] w fun u w'=>Below w.heap.size w w'∧u= .string s.name:=by
 obtain ⟨vc,vn,vo,vf,vl,vk⟩:=v
 have hn:=hN.l
 obtain ⟨A,c,e,_⟩:=hn.form
 dsimp only at e
 subst e
 have hil:=(List.getElem?_eq_some_iff.1 hs).1
 obtain ⟨ad,rfl⟩:=hn.addr (by omega)
 obtain ⟨ad',cs,e1,hF,hrep,hc⟩:=hn.at hs
 cases e1
 obtain ⟨rfl,_⟩:=hrep
 refine gv (f:=127) ?_
 refine rnT ?_
 refine TW.ld rfl (hB.fld rfl) ?_
 refine rnT ?_
 refine TW.ld rfl (hc 0 _ rfl) ?_
 refine rnT ?_
 refine rt1 rfl ⟨Below.refl _ _,rfl⟩
theorem inc8_c (hB:Blk w g 29 v.cells) (hN:NetIn F w v N) {s:_} (hs:N.classes[i]?=some s):Gives Tryz.prog 131 #[.int .i64 (i:Int),.pointer (some ⟨g,0,none⟩)] w fun u w'=>Below w.heap.size w w'∧u= .string s.name:=by
 obtain ⟨vc,vn,vo,vf,vl,vk⟩:=v
 have hn:=hN.k
 obtain ⟨A,c,e,_⟩:=hn.form
 dsimp only at e
 subst e
 have hil:=(List.getElem?_eq_some_iff.1 hs).1
 obtain ⟨ad,rfl⟩:=hn.addr (by omega)
 obtain ⟨ad',cs,e1,hF,hrep,hc⟩:=hn.at hs
 cases e1
 obtain ⟨rfl,_⟩:=hrep
 refine gv (f:=131) ?_
 refine rnT ?_
 refine TW.ld rfl (hB.fld rfl) ?_
 refine rnT ?_
 refine TW.ld rfl (hc 0 _ rfl) ?_
 refine rnT ?_
 refine rt1 rfl ⟨Below.refl _ _,rfl⟩
theorem inc3_c:Gives Tryz.prog 122 #[.agg [Value.string s].toArray] w fun u w'=>Below w.heap.size w w'∧u= .bool true:=by
 refine gv (f:=122) ?_
 refine rnT ?_
 refine TW.box rfl rfl rfl rfl ?_
 rintro g w1 f1
 refine rnT ?_
 refine rt1 rfl ⟨f1.below,rfl⟩
theorem inc5_c {ov:Value} {o:Of} (hB:Blk w g 29 v.cells) (hN:NVform v N) (h:OfIn F w ov o):Gives Tryz.prog 125 #[.agg (ofV o ov).toArray,.pointer (some ⟨g,0,none⟩)] w fun u w'=>Below w.heap.size w w'∧u= .bool (dec (OfOK N o)):=by
 obtain ⟨A,cap,rfl,_⟩:=h.cd.form
 obtain ⟨vc,vn,vo,vf,vl,vk⟩:=v
 obtain ⟨⟨A1,c1,e1⟩,⟨A2,c2,e2⟩,⟨A3,c3,e3⟩,⟨A4,c4,e4⟩,⟨A5,c5,e5⟩,⟨A6,c6,e6⟩⟩:=id hN
 dsimp only at e1 e2 e3 e4 e5 e6
 subst e1 e2 e3 e4 e5 e6
 refine gv (f:=125) ?_
 refine rnT ?_
 refine TW.box rfl rfl rfl rfl ?_
 rintro g2 w2 f2
 refine rnT ?_
 refine TW.ldS rfl (fun _ _ hv=>(hB.next f2.below).fld hv) ?_
 refine TW.ldS rfl (fun _ _ hv=>f2.blk.fld hv) ?_
 refine TW.cl rfl (goodOffice_c hN (h.below f2.below)) ?_
 rintro y3 w3 ⟨d3,rfl⟩
 refine rnT ?_
 refine rt1 rfl ⟨f2.below.step d3,rfl⟩
theorem inc7_c {l:Li} (hB:Blk w g 29 v.cells) (hN:NVform v N):Gives Tryz.prog 129 #[.agg (liV l).toArray,.pointer (some ⟨g,0,none⟩)] w fun u w'=>Below w.heap.size w w'∧u= .bool (dec (LiOK N l)):=by
 obtain ⟨vc,vn,vo,vf,vl,vk⟩:=v
 obtain ⟨⟨A1,c1,e1⟩,⟨A2,c2,e2⟩,⟨A3,c3,e3⟩,⟨A4,c4,e4⟩,⟨A5,c5,e5⟩,⟨A6,c6,e6⟩⟩:=id hN
 dsimp only at e1 e2 e3 e4 e5 e6
 subst e1 e2 e3 e4 e5 e6
 refine gv (f:=129) ?_
 refine rnT ?_
 refine TW.box rfl rfl rfl rfl ?_
 rintro g2 w2 f2
 refine rnT ?_
 refine TW.ldS rfl (fun _ _ hv=>(hB.next f2.below).fld hv) ?_
 refine TW.ldS rfl (fun _ _ hv=>f2.blk.fld hv) ?_
 refine TW.cl rfl (goodLine_c hN) ?_
 rintro y3 w3 ⟨d3,rfl⟩
 refine rnT ?_
 refine rt1 rfl ⟨f2.below.step d3,rfl⟩
theorem inc9_c {l:Cla}:Gives Tryz.prog 133 #[.agg (claV l).toArray] w fun u w'=>Below w.heap.size w w'∧u= .bool (dec (ClaOK l)):=by
 refine gv (f:=133) ?_
 refine rnT ?_
 refine TW.box rfl rfl rfl rfl ?_
 rintro g2 w2 f2
 refine rnT ?_
 refine TW.ld rfl (f2.blk.fld rfl) ?_
 refine TW.cl rfl (isMinute_c) ?_
 rintro y3 w3 ⟨d3,rfl⟩
 refine rnT ?_
 refine TW.ld rfl ((f2.blk.next d3).fld rfl) ?_
 refine TW.callF (cap:= []) rfl rfl en134 rfl ct (Args.cons rfl id Args.nil) (fun _=>isMinute_c) ?_
 rintro w4 d4
 refine rnT ?_
 refine rt1 rfl ⟨(f2.below.step d3).step d4,?_⟩
 by_cases hq:ClaOK l
 ·rw [dec_pos hq]
  have q1:=hq.c1
  have q2:=hq.c2
  have q3:=hq.d1
  have q4:=hq.d2
  simp [q1,q2,q3,q4]
 ·rw [dec_neg hq]
  have: ¬((0≤l.cut∧l.cut≤1439)∧0≤l.del∧l.del≤1439):=fun h=>hq ⟨h.1.1,h.1.2,h.2.1,h.2.2⟩
  congr 1
  simp only [Bool.and_eq_false_iff,decide_eq_false_iff_not]
  omega
theorem FRow.form {w:World} {b:Nat} {v:Value} {n:Nat} (h:FRow w b v n): ∃A c,v= .slice A n c:=by
 obtain ⟨zs,h1,_⟩:=h
 obtain ⟨A,c,e,_⟩:=h1.form
 exact ⟨A,c,e⟩
theorem FRow.apps {w':World} {n m:Nat} {v v':Value} {zs cs:List Value} (h3: ∀g,v.ownBlock=some g→b≤g) (h2: ∀u∈zs,u.oneCell'=true) (hc: ∀u∈cs,u.oneCell'=true) (hO:OwnS w' 167 3 v' (n+m) (zs++cs)) (hn:v'.ownBlock=v.ownBlock∨v'.ownBlock=some w.heap.size) (hb:b≤w.heap.size):FRow w' b v' (n+m) :=
 ⟨zs++cs,hO,fun u hu=>(List.mem_append.1 hu).elim (h2 u) (hc u),fun g hg=>by
  rcases hn with h|h
  ·exact h3 g (by rw [←h]; exact hg)
  ·rw [h] at hg; cases hg; exact hb⟩
theorem own_news {e:TypeId} {sz m:Nat} {A:Option Addr} {c:Nat} {zs:List Value} (h:OwnS w e sz (.slice A m c) m zs): ∀(j:Nat) (u:Value),zs[j]?=some u→ ∃ad,A=some ad∧w.cell? (ad.add j)=some u:=fun j u hu=>by
 obtain ⟨A',c',e1,_,_,h1⟩:=h.form
 simp only [Value.slice.injEq] at e1
 obtain ⟨rfl,_,_⟩:=e1
 obtain ⟨g,h2,_,h3,_⟩:=h1 j u hu
 exact ⟨_,h2,by rw [addr0]; exact h3⟩
theorem incon_c (ht:Tabs w) (hN:NetAt w v N):Gives Tryz.prog 64 #[.agg v.cells.toArray] w fun u w'=>Below w.heap.size w w'∧ ∃n,FRow w' w.heap.size u n∧n≤1000∧(n=0↔ConsOK keys11 N):=by
 have hform:=NetIn.form hN
 obtain ⟨vc,vn,vo,vf,vl,vk⟩:=v
 obtain ⟨⟨A1,c1,e1⟩,⟨A2,c2,e2⟩,⟨A3,c3,e3⟩,⟨A4,c4,e4⟩,⟨A5,c5,e5⟩,⟨A6,c6,e6⟩⟩:=id hform
 dsimp only at e1 e2 e3 e4 e5 e6
 subst e1 e2 e3 e4 e5 e6
 have m1:=hN.c.len.2.2
 have m2:=hN.n.len.2.2
 refine gv (f:=64) ?_
 refine rnT ?_
 refine TW.box rfl rfl rfl rfl ?_
 rintro g1 w1 f1
 refine rnT ?_
 have hB1:=f1.blk
 have hN1:=net_step hN f1.below
 refine TW.ld rfl (hB1.fld rfl) ?_
 refine rnT ?_
 refine TW.ld rfl (hB1.fld rfl) ?_
 refine rnT ?_
 refine CW.joinP (fun z:Value×Nat=> [(1,none,.pointer (some ⟨g1,0,none⟩)),(3,none,z.1)])
  (fun z W'=>Below w1.heap.size w1 W'∧FRow W' w1.heap.size z.1 z.2∧z.2≤1∧(z.2=0↔N.names.length=N.cals.length)) (fun hj=> ?_) (fun z W2 hJ=> ?_)
 ·skip
  refine CW.condP rfl (fun hne=> ?_) (fun heq=> ?_)
  ·refine rnT ?_
   refine TW.build [0,1,2] _ [.int .i64 1,.int .i64 (-1),.int .i64 1] rfl rfl rfl (Args.cons rfl ct (Args.cons rfl ct (Args.cons rfl ct Args.nil))) (by kernel_rfl) ?_
   refine TW.buildSlice 167 _ rfl rfl rfl eo85 (Args.cons rfl ct Args.nil) rfl rfl rfl rfl rfl ?_
   rintro g2 w2 f2
   refine TW.append [.int .i64 1,.int .i64 (-1),.int .i64 1] rfl rfl go85 rfl (OwnS.nil _ _ _) rfl rfl (fun j u hj=>⟨_,rfl,f2.blk.fld hj⟩) (fun u hu=>by simp at hu; rcases hu with rfl|rfl|rfl<;>rfl) (by omega) (by omega) ?_
   rintro fv' w3 hO3 hg3 hn3
   refine TW.v V.assign rfl ⟨ct,trivial⟩ (fun _=>trivial) ?_
   refine TW.nil (KW.pick [0,1,2,3] [(0,_,_),(1,_,_),(2,_,_),(3,_,_)] rfl (KW.then_ ?_))
   exact CW.pick [1,3] _ rfl (hj (fv',1) _ ⟨f2.below.grown hg3 f2.below.size (fun q hq=>by simp [Value.ownBlock] at hq),FRow.app (w:=w2) (fun g hg=>by simp [Value.ownBlock] at hg) (fun u hu=>by cases hu) (fun u hu=>by simp at hu; rcases hu with rfl|rfl|rfl<;>rfl) hO3 hn3 f2.below.size,Nat.le_refl _,⟨fun h=>absurd h (Nat.succ_ne_zero 0),fun h=>by omega⟩⟩)
  ·refine CW.skip (KW.then_ ?_)
   exact CW.pick [1,3] _ rfl (hj (.slice none 0 0,0) _ ⟨Below.refl _ _,FRow.nil _ _,Nat.zero_le _,⟨fun _=>by omega,fun _=>rfl⟩⟩)
 obtain ⟨fv,n⟩:=z
 obtain ⟨b2,⟨zs,hO,h2,h3⟩,hn1,hiff⟩:=hJ
 dsimp only at hO h3 hn1 hiff
 have hBx1:=hB1.next b2
 have hNx1:=net_step hN1 b2
 have htx1:=ht.below (f1.below.step b2)
 refine rnT ?_
 refine TW.makeFunc rfl rfl (Args.cons rfl ct Args.nil) ?_
 refine rnT ?_
 refine TW.ld rfl (hBx1.fld rfl) ?_
 refine rnT ?_
 have hnm1: ∀j s,(calNm N)[j]?=some s→NameF W2 117 [.pointer (some ⟨g1,0,none⟩)] j s:=fun j s hs W hW=>by
  have hj:j<N.cals.length:=by have:=(List.getElem?_eq_some_iff.1 hs).1; simpa [calNm] using this
  have e:N.names.getD j ⟨#[]⟩=s:=by
   unfold calNm at hs
   rw [List.getElem?_map,List.getElem?_range hj] at hs
   simpa using hs
  exact (inc1_c (hBx1.next hW) (hNx1.below hW)).mono fun u w' ⟨q1,q2⟩=>⟨q1,by rw [q2,e]⟩
 have hgd1: ∀(j:Nat) x,N.cals[j]?=some x→ ∀cs W,Below W2.heap.size W2 W→calT.rep (fun k=>k<W2.heap.size) W cs x→Gives Tryz.prog 119 (.agg cs.toArray:: []).toArray W fun u W'=>Below W.heap.size W W'∧u= .bool (dec (CalOK x)):=fun j x hx cs W hW hr=>by
  obtain ⟨u,u2,rfl,q1,q2,q3⟩:=hr
  exact calValid_c (u:=u) (v:=u2) ⟨q1,q2,q3⟩
 refine TW.cl rfl (checkCal_c (capn:= [.pointer (some ⟨g1,0,none⟩)]) (capg:= []) (lim:=6) (nm:=calNm N) (G:=CalOK) htx1 hNx1.c en117 en119 (by decide) (by simp [calNm]) hnm1 hgd1) ?_
 rintro y1 w31 ⟨d1,n1,⟨zs1,hO1,k21,k31⟩,hle1,hiff1⟩
 obtain ⟨Y1,yc1,hy1,_⟩:=hO1.form
 subst hy1
 refine TW.append zs1 rfl rfl go85 rfl (hO.below d1) rfl hO1.1 (own_news hO1) k21 (by omega) (by omega) ?_
 rintro fv1 w41 hP1 hg1 hq1
 refine rnT ?_
 refine TW.pk [1,3,4] rfl ?_
 refine TW.makeFunc rfl rfl (Args.cons rfl ct Args.nil) ?_
 refine rnT ?_
 have b31:=b2.step d1
 have b41:=b31.grown hg1 b31.size h3
 obtain ⟨zz1,hz1,hz21,hz31⟩:=FRow.apps h3 h2 k21 hP1 hq1 b31.size
 have hBx2:=hB1.next b41
 have hNx2:=net_step hN1 b41
 have htx2:=ht.below (f1.below.step b41)
 refine TW.ld rfl (hBx2.fld rfl) ?_
 refine rnT ?_
 have hnm2: ∀j s,(N.ops)[j]?=some s→NameF w41 120 [.pointer (some ⟨g1,0,none⟩)] j s:=fun j s hs W hW=>inc2_c (hBx2.next hW) (hNx2.below hW) hs
 have hgd2: ∀(j:Nat) x,N.ops[j]?=some x→ ∀cs W,Below w41.heap.size w41 W→strT.rep (fun k=>k<w41.heap.size) W cs x→Gives Tryz.prog 122 (.agg cs.toArray:: []).toArray W fun u W'=>Below W.heap.size W W'∧u= .bool (dec ((fun _=>True) x)):=fun j x hx cs W hW hr=>by
  obtain ⟨rfl,_⟩:=hr
  exact inc3_c.mono fun u w' ⟨q1,q2⟩=>⟨q1,by rw [q2,dec_pos trivial]⟩
 refine TW.cl rfl (checkOpr_c (capn:= [.pointer (some ⟨g1,0,none⟩)]) (capg:= []) (lim:=6) (nm:=N.ops) (G:=(fun _=>True)) htx2 hNx2.o en120 en122 (by decide) (rfl) hnm2 hgd2) ?_
 rintro y2 w32 ⟨d2,n2,⟨zs2,hO2,k22,k32⟩,hle2,hiff2⟩
 obtain ⟨Y2,yc2,hy2,_⟩:=hO2.form
 subst hy2
 refine TW.append zs2 rfl rfl go85 rfl (hz1.below d2) rfl hO2.1 (own_news hO2) k22 (by omega) (by omega) ?_
 rintro fv2 w42 hP2 hg2 hq2
 refine rnT ?_
 refine TW.makeFunc rfl rfl (Args.cons rfl ct Args.nil) ?_
 refine rnT ?_
 have b32:=b41.step d2
 have b42:=b32.grown hg2 b32.size hz31
 obtain ⟨zz2,hz2,hz22,hz32⟩:=FRow.apps hz31 hz21 k22 hP2 hq2 b32.size
 have hBx3:=hB1.next b42
 have hNx3:=net_step hN1 b42
 have htx3:=ht.below (f1.below.step b42)
 refine TW.ld rfl (hBx3.fld rfl) ?_
 refine rnT ?_
 refine TW.makeFunc rfl rfl (Args.cons rfl ct Args.nil) ?_
 have hnm3: ∀j s,((N.offs.map (·.name)))[j]?=some s→NameF w42 123 [.pointer (some ⟨g1,0,none⟩)] j s:=fun j s hs W hW=>by
  rw [List.getElem?_map] at hs
  obtain ⟨x,hx,rfl⟩:=Option.map_eq_some_iff.1 hs
  exact inc4_c (hBx3.next hW) (hNx3.below hW) hx
 have hgd3: ∀(j:Nat) x,N.offs[j]?=some x→ ∀cs W,Below w42.heap.size w42 W→ofT.rep (fun k=>k<w42.heap.size) W cs x→Gives Tryz.prog 125 (.agg cs.toArray:: [.pointer (some ⟨g1,0,none⟩)]).toArray W fun u W'=>Below W.heap.size W W'∧u= .bool (dec ((OfOK N) x)):=fun j x hx cs W hW hr=>by
  obtain ⟨u,rfl,q1,q2,q3,q4,q5,q6,q7⟩:=hr
  exact inc5_c (hBx3.next hW) hform ⟨q1,q2,q3,q4,q5,q6,q7⟩
 refine TW.cl rfl (checkOff_c (capn:= [.pointer (some ⟨g1,0,none⟩)]) (capg:= [.pointer (some ⟨g1,0,none⟩)]) (lim:=12) (nm:=(N.offs.map (·.name))) (G:=(OfOK N)) htx3 hNx3.f en123 en125 (by decide) (by simp) hnm3 hgd3) ?_
 rintro y3 w33 ⟨d3,n3,⟨zs3,hO3,k23,k33⟩,hle3,hiff3⟩
 obtain ⟨Y3,yc3,hy3,_⟩:=hO3.form
 subst hy3
 refine TW.append zs3 rfl rfl go85 rfl (hz2.below d3) rfl hO3.1 (own_news hO3) k23 (by omega) (by omega) ?_
 rintro fv3 w43 hP3 hg3 hq3
 refine rnT ?_
 refine TW.pk [1,3,4,5,6] rfl ?_
 refine TW.makeFunc rfl rfl (Args.cons rfl ct Args.nil) ?_
 refine rnT ?_
 have b33:=b42.step d3
 have b43:=b33.grown hg3 b33.size hz32
 obtain ⟨zz3,hz3,hz23,hz33⟩:=FRow.apps hz32 hz22 k23 hP3 hq3 b33.size
 have hBx4:=hB1.next b43
 have hNx4:=net_step hN1 b43
 have htx4:=ht.below (f1.below.step b43)
 refine TW.ld rfl (hBx4.fld rfl) ?_
 refine rnT ?_
 refine TW.makeFunc rfl rfl (Args.cons rfl ct Args.nil) ?_
 have hnm4: ∀j s,((N.lines.map (·.name)))[j]?=some s→NameF w43 127 [.pointer (some ⟨g1,0,none⟩)] j s:=fun j s hs W hW=>by
  rw [List.getElem?_map] at hs
  obtain ⟨x,hx,rfl⟩:=Option.map_eq_some_iff.1 hs
  exact inc6_c (hBx4.next hW) (hNx4.below hW) hx
 have hgd4: ∀(j:Nat) x,N.lines[j]?=some x→ ∀cs W,Below w43.heap.size w43 W→liT.rep (fun k=>k<w43.heap.size) W cs x→Gives Tryz.prog 129 (.agg cs.toArray:: [.pointer (some ⟨g1,0,none⟩)]).toArray W fun u W'=>Below W.heap.size W W'∧u= .bool (dec ((LiOK N) x)):=fun j x hx cs W hW hr=>by
  obtain ⟨rfl,_⟩:=hr
  exact inc7_c (hBx4.next hW) hform
 refine TW.cl rfl (checkLin_c (capn:= [.pointer (some ⟨g1,0,none⟩)]) (capg:= [.pointer (some ⟨g1,0,none⟩)]) (lim:=40) (nm:=(N.lines.map (·.name))) (G:=(LiOK N)) htx4 hNx4.l en127 en129 (by decide) (by simp) hnm4 hgd4) ?_
 rintro y4 w34 ⟨d4,n4,⟨zs4,hO4,k24,k34⟩,hle4,hiff4⟩
 obtain ⟨Y4,yc4,hy4,_⟩:=hO4.form
 subst hy4
 refine TW.append zs4 rfl rfl go85 rfl (hz3.below d4) rfl hO4.1 (own_news hO4) k24 (by omega) (by omega) ?_
 rintro fv4 w44 hP4 hg4 hq4
 refine rnT ?_
 refine TW.makeFunc rfl rfl (Args.cons rfl ct Args.nil) ?_
 refine rnT ?_
 have b34:=b43.step d4
 have b44:=b34.grown hg4 b34.size hz33
 obtain ⟨zz4,hz4,hz24,hz34⟩:=FRow.apps hz33 hz23 k24 hP4 hq4 b34.size
 have hBx5:=hB1.next b44
 have hNx5:=net_step hN1 b44
 have htx5:=ht.below (f1.below.step b44)
 refine TW.ld rfl (hBx5.fld rfl) ?_
 refine rnT ?_
 have hnm5: ∀j s,((N.classes.map (·.name)))[j]?=some s→NameF w44 131 [.pointer (some ⟨g1,0,none⟩)] j s:=fun j s hs W hW=>by
  rw [List.getElem?_map] at hs
  obtain ⟨x,hx,rfl⟩:=Option.map_eq_some_iff.1 hs
  exact inc8_c (hBx5.next hW) (hNx5.below hW) hx
 have hgd5: ∀(j:Nat) x,N.classes[j]?=some x→ ∀cs W,Below w44.heap.size w44 W→claT.rep (fun k=>k<w44.heap.size) W cs x→Gives Tryz.prog 133 (.agg cs.toArray:: []).toArray W fun u W'=>Below W.heap.size W W'∧u= .bool (dec (ClaOK x)):=fun j x hx cs W hW hr=>by
  obtain ⟨rfl,_⟩:=hr
  exact inc9_c
 refine TW.cl rfl (checkCls_c (capn:= [.pointer (some ⟨g1,0,none⟩)]) (capg:= []) (lim:=4) (nm:=(N.classes.map (·.name))) (G:=ClaOK) htx5 hNx5.k en131 en133 (by decide) (by simp) hnm5 hgd5) ?_
 rintro y5 w35 ⟨d5,n5,⟨zs5,hO5,k25,k35⟩,hle5,hiff5⟩
 obtain ⟨Y5,yc5,hy5,_⟩:=hO5.form
 subst hy5
 refine TW.append zs5 rfl rfl go85 rfl (hz4.below d5) rfl hO5.1 (own_news hO5) k25 (by omega) (by omega) ?_
 rintro fv5 w45 hP5 hg5 hq5
 refine rnT ?_
 have b35:=b44.step d5
 have b45:=b35.grown hg5 b35.size hz34
 obtain ⟨zz5,hz5,hz25,hz35⟩:=FRow.apps hz34 hz24 k25 hP5 hq5 b35.size
 refine rt1 rfl ⟨f1.below.step b45,_,⟨zz5,hz5,hz25,fun g hg=>Nat.le_trans f1.below.size (hz35 g hg)⟩,by omega,?_⟩
 constructor
 ·intro h
  have e0:=hiff.1 (by omega)
  have q1:=hiff1.1 (by omega)
  rw [calNm_eq e0] at q1
  exact ⟨e0,q1,hiff2.1 (by omega),hiff3.1 (by omega),hiff4.1 (by omega),hiff5.1 (by omega)⟩
 ·intro h
  have e0:=hiff.2 h.len
  have q1:=hiff1.2 (by rw [calNm_eq h.len]; exact h.cals)
  have q2:=hiff2.2 h.ops
  have q3:=hiff3.2 h.offs
  have q4:=hiff4.2 h.lines
  have q5:=hiff5.2 h.classes
  omega
def tabV (M:Tab12):List Value:=M.map (Value.int .i64)
theorem tab_ad:(Addr.add ⟨g,0,none⟩ ((a:Int).toNat*12)).add ((b:Int).toNat*1)=⟨g,12*a+b,none⟩:=by
 rw [add_add,addr0]
 congr 1
 omega
theorem tab_cell {t:TypeId} (h:Blk w g t (tabV M)) (hl:M.length=144) (ha:a<12) (hb:b<12):w.cell? ((Addr.add ⟨g,0,none⟩ ((a:Int).toNat*12)).add ((b:Int).toNat*1))=some (.int .i64 (g12 M a b)):=by
 rw [tab_ad,←addr0]
 refine h.fld ?_
 unfold tabV g12
 rw [List.getElem?_map,List.getD_eq_getElem?_getD,List.getElem?_eq_getElem (by omega)]
 rfl
theorem relax1_c {t:Int} (hB:Blk w g 140 (tabV M)) (hl:M.length=144) (ha:a<12) (hb:b<12):Gives Tryz.prog 153 #[.int .i64 (a:Int),.int .i64 (b:Int),.int .i64 t,.pointer (some ⟨g,0,none⟩)] w fun _ w'=>But g w w'∧w'.heap.size=w.heap.size∧Blk w' g 140 (tabV (relax12 M a b t)):=by
 have hc:=tab_cell hB hl ha hb
 refine gv (f:=153) ?_
 refine CW.seq (CW.region ?_)
 refine TW.v V.move rfl ⟨ct,trivial⟩ (fun _=>trivial) ?_
 refine TW.v V.move rfl ⟨ct,trivial⟩ (fun _=>trivial) ?_
 refine TW.v V.indexAddrA rfl ⟨ct,ct,trivial⟩ (fun _=>by (try dsimp only); omega) ?_
 refine TW.v V.indexAddrA rfl ⟨ct,ct,trivial⟩ (fun _=>by (try dsimp only); omega) ?_
 refine TW.ld rfl hc ?_
 refine TW.v V.eql rfl ⟨ct,ct,trivial⟩ (fun _=>trivial) ?_
 refine TW.v V.move rfl ⟨ct,trivial⟩ (fun _=>trivial) ?_
 refine TW.v V.move rfl ⟨ct,trivial⟩ (fun _=>trivial) ?_
 refine TW.v V.move rfl ⟨ct,trivial⟩ (fun _=>trivial) ?_
 refine TW.v V.move rfl ⟨ct,trivial⟩ (fun _=>trivial) ?_
 refine TW.v V.indexAddrA rfl ⟨ct,id,trivial⟩ (fun h=>by (try dsimp only); first|omega|(simp [Cnd] at h; omega)) ?_
 refine TW.v V.indexAddrA rfl ⟨id,id,trivial⟩ (fun h=>by (try dsimp only); first|omega|(simp [Cnd] at h; omega)) ?_
 refine TW.ld rfl hc ?_
 refine rnT ?_
 refine CW.cond rfl (fun h1=> ?_) (fun h2=> ?_)
 ·have hr:relax12 M a b t=M.set (12*a+b) t:=by
   unfold relax12
   rw [if_pos (by simpa using h1)]
  refine CW.region ?_
  refine TW.v V.move rfl ⟨ct,trivial⟩ (fun _=>trivial) ?_
  refine TW.v V.move rfl ⟨ct,trivial⟩ (fun _=>trivial) ?_
  refine TW.v V.move rfl ⟨ct,trivial⟩ (fun _=>trivial) ?_
  refine TW.v V.indexAddrA rfl ⟨ct,ct,trivial⟩ (fun _=>by (try dsimp only); omega) ?_
  refine TW.v V.indexAddrA rfl ⟨ct,ct,trivial⟩ (fun _=>by (try dsimp only); omega) ?_
  rw [tab_ad]
  have hlt:(12*a+b)<(tabV M).length:=by unfold tabV; rw [List.length_map]; omega
  refine TW.store1 rfl sz3 rfl rfl (by rw [←tab_ad]; exact hc) (hB.frozen _) rfl ?_
  refine rnT ?_
  refine end0 Tryz.results153 ⟨.setCell,by simp [World.setCell],by rw [hr]; have:=hB.set (12*a+b) (.int .i64 t); rw [show (tabV M).set (12*a+b) (.int .i64 t)=tabV (M.set (12*a+b) t) from by unfold tabV; rw [List.map_set]] at this; exact this⟩
 ·have hr:relax12 M a b t=M:=by
   unfold relax12
   rw [if_neg (by simpa using h2)]
  refine CW.skip ?_
  refine end0 Tryz.results153 ⟨But.of_below (Below.refl _ _),rfl,by rw [hr]; exact hB⟩
theorem tabV_one (M:Tab12):(tabV M).all (·.oneCell')=true:=by
 rw [List.all_eq_true]
 intro u hu
 obtain ⟨x,_,rfl⟩:=List.mem_map.1 hu
 rfl
theorem tabV_len (h:M.length=144):(tabV M).length=144:=by unfold tabV; rw [List.length_map]; exact h
structure RS12 (w W:World) (g2 g3:Nat) (M:Tab12):Prop where
 b:Below w.heap.size w W
 z:Blk W g2 140 (tabV (initL 0))
 t:Blk W g3 140 (tabV M)
theorem relaxed_c (hN:NetAt w v N) (hL:LnOK 12 (lnOf N)) (hli: ∀l∈N.lines,0≤l.frm∧0≤l.to):Gives Tryz.prog 81 #[.agg v.cells.toArray] w fun u w'=>Below w.heap.size w w'∧u= .agg (tabV (relaxed12 (lnOf N))).toArray:=by
 have hform:=NetIn.form hN
 obtain ⟨vc,vn,vo,vf,vl,vk⟩:=v
 obtain ⟨_,_,_,_,⟨A5,c5,e5⟩,_⟩:=id hform
 dsimp only at e5
 subst e5
 have hl:=hN.l
 have hmax:=hl.len.2.2
 have hz0: ∀(t:TypeId) (w':World) (g:Nat),Blk w' g t (List.replicate 144 (Value.int .i64 0))→Blk w' g t (tabV (initL 0)):=fun t w' g h=>by
  rw [initL_zero]
  unfold tabV
  rw [List.map_replicate]
  exact h
 refine gv (f:=81) ?_
 refine rnT ?_
 refine TW.box rfl rfl rfl rfl ?_
 rintro g1 w1 f1
 refine TW.alloc rfl rfl zc140 ?_
 rintro g2 w2 f2
 refine rnT ?_
 refine TW.alloc rfl rfl zc140 ?_
 rintro g3 w3 f3
 refine rnT ?_
 have k1:=f1.at_
 have k2:=f2.at_
 have k3:=f3.at_
 have s1:=f1.size
 have s2:=f2.size
 have hg23:g2≠g3:=by omega
 have hB13:=(f1.blk.next f2.below).next f3.below
 have b3:=(f1.below.step f2.below).step f3.below
 have hl3:=hl.below b3
 have hput: ∀ {W W':World} {M M':Tab12},RS12 w W g2 g3 M→But g3 W W'→Blk W' g3 140 (tabV M')→RS12 w W' g2 g3 M':=fun h hb hB=>⟨h.b.grown hb h.b.size (fun k hk=>by cases hk; omega),hb.blk h.z hg23,hB⟩
 have h0:RS12 w w3 g2 g3 (initL 0):=⟨b3,hz0 _ _ _ (f2.blk.next f3.below),hz0 _ _ _ f3.blk⟩
 have hg1:g1≠g3:=by omega
 refine CW.lp [1,2,3] (fun a:Nat=> [(12,none,.int .i64 (a:Int))])
  (fun a W=>a≤12∧RS12 w W g2 g3 (initL (12*a))∧But g3 w3 W) (fun a=>12-a) 0 ⟨Nat.zero_le _,h0,But.of_below (Below.refl _ _)⟩ ?_
 rintro a W ⟨ha,hR,hbut⟩
 refine rnT ?_
 refine CW.condP rfl (fun hlt=> ?_) (fun hge=> ?_)
 ·refine rnT ?_
  refine CW.lp [1,2,3,4,12] (fun b:Nat=> [(15,none,.int .i64 (b:Int))])
   (fun b W=>b≤12∧RS12 w W g2 g3 (initL (12*a+b))∧But g3 w3 W) (fun b=>12-b) 0 ⟨Nat.zero_le _,hR,hbut⟩ ?_
  rintro b W' ⟨hb,hR',hbut'⟩
  refine rnT ?_
  refine CW.condP rfl (fun hlt2=> ?_) (fun hge2=> ?_)
  ·have hs:=initL_succ (k:=12*a+b) (by omega)
   have hdm:(12*a+b) / 12=(12*a+b)%12↔a=b:=by omega
   refine rnT ?_
   refine CW.condP rfl (fun hne=> ?_) (fun heq=> ?_)
   ·rw [if_neg (by omega)] at hs
    have hc:=tab_cell (a:=a) (b:=b) hR'.t (initL_len _) (by omega) (by omega)
    refine CW.region ?_
    refine TW.v V.move rfl ⟨ct,trivial⟩ (fun _=>trivial) ?_
    refine TW.v V.move rfl ⟨ct,trivial⟩ (fun _=>trivial) ?_
    refine TW.v V.indexAddrA rfl ⟨ct,ct,trivial⟩ (fun _=>by (try dsimp only); omega) ?_
    refine TW.v V.indexAddrA rfl ⟨ct,ct,trivial⟩ (fun _=>by (try dsimp only); omega) ?_
    rw [tab_ad]
    refine TW.store1 rfl sz3 rfl rfl (by rw [←tab_ad]; exact hc) (hR'.t.frozen _) rfl ?_
    refine rnT ?_
    refine KW.rd (b+1) ⟨by omega,hput hR' .setCell ?_,hbut'.trans .setCell⟩
    have:=hR'.t.set (12*a+b) (.int .i64 (-1))
    rw [show 12*a+(b+1)=12*a+b+1 by omega,hs]
    rw [show (tabV (initL (12*a+b))).set (12*a+b) (.int .i64 (-1))=tabV ((initL (12*a+b)).set (12*a+b) (-1)) from by unfold tabV; rw [List.map_set]] at this
    exact this
   ·rw [if_pos (by omega)] at hs
    refine rnT ?_
    refine KW.rd (b+1) ⟨by omega,?_,hbut'⟩
    rw [show 12*a+(b+1)=12*a+b+1 by omega,hs]
    exact hR'
  ·refine rnT ?_
   refine KW.rd (a+1) ⟨by omega,?_,hbut'⟩
   rw [show 12*(a+1)=12*a+b by omega]
   exact hR'
 have ha12:a=12:=by omega
 subst ha12
 rw [show initL (12*12)=init12 from initL_all] at hR
 have hlW:SL liT (fun k=>k<w.heap.size) W (.slice A5 N.lines.length c5) N.lines:=hl.below hR.b
 refine rnT ?_
 refine TW.makeFunc rfl rfl (Args.cons rfl ct Args.nil) ?_
 refine rnT ?_
 refine TW.ld rfl ((hbut.blk hB13 hg1).fld rfl) ?_
 refine rnT ?_
 obtain ⟨L,hLe⟩: ∃L,L=lnOf N:=⟨_,rfl⟩
 have hLl:L.length=N.lines.length:=by rw [hLe]; simp [lnOf]
 rw [←hLe] at hL ⊢
 refine CW.lp [1,2,3,6,29,30] (fun j:Nat=> [(31,none,.int .i64 (j:Int))])
  (fun j W=>j≤N.lines.length∧RS12 w W g2 g3 (lines12 init12 (L.take j))) (fun j=>N.lines.length-j) 0 ⟨Nat.zero_le _,hR⟩ ?_
 rintro j W2 ⟨hj,hR2⟩
 refine rnT ?_
 refine CW.condP rfl (fun hlt=> ?_) (fun hge=> ?_)
 ·obtain ⟨l,hll,hlm⟩:=getx (l:=N.lines) (k:=j) (by omega)
  have hl2:=hl.below hR2.b
  obtain ⟨ad,rfl⟩:=hl2.addr (by omega)
  obtain ⟨ad',cs,e1,hF,hrep,hc⟩:=hl2.at hll
  cases e1
  obtain ⟨rfl,_⟩:=hrep
  have hln:L[j]?=some (l.frm.toNat,l.to.toNat,l.trav):=by rw [hLe]; unfold lnOf; rw [List.getElem?_map,hll]; rfl
  have hlk:=hL _ (List.mem_of_getElem? hln)
  dsimp only at hlk
  obtain ⟨p1,p2⟩:=hli l hlm
  have q1:l.frm=((l.frm.toNat:Nat):Int):=by omega
  have q2:l.to=((l.to.toNat:Nat):Int):=by omega
  refine rnT ?_
  refine TW.ldS rfl (hc) ?_
  refine TW.newVar rfl zc113 rfl sz113 rfl rfl ?_
  rintro g8 w8 f8
  refine rnT ?_
  refine TW.ld rfl (f8.blk.fld rfl) ?_
  refine rnT ?_
  refine TW.ld rfl (f8.blk.fld rfl) ?_
  refine rnT ?_
  refine TW.ld rfl (f8.blk.fld rfl) ?_
  rw [q1,q2]
  have hT8:=hR2.t.next f8.below
  have hlen2:=(lines12_at hL (L.take j) (fun x hx=>List.mem_of_mem_take hx)).len
  refine TW.call0 rfl rfl en153 rfl (Args.cons rfl ct (Args.cons rfl ct (Args.cons rfl ct Args.nil))) (relax1_c (t:=l.trav) hT8 hlen2 hlk.1 hlk.2.1) ?_
  rintro y9 w9 ⟨hbut9,hsz9,hB9⟩
  refine rnT ?_
  have hR8:RS12 w w8 g2 g3 (lines12 init12 (L.take j)):=⟨hR2.b.step f8.below,hR2.z.next f8.below,hT8⟩
  refine KW.rd (j+1) ⟨by omega,?_⟩
  rw [List.take_add_one,hln]
  have hh:=hput hR8 hbut9 hB9
  rw [←lines12_snoc init12 (L.take j) (l.frm.toNat,l.to.toNat,l.trav)] at hh
  exact hh
 have hjl:L.take j=L:=List.take_of_length_le (by omega)
 rw [hjl] at hR2
 obtain ⟨M1,hM1⟩: ∃M,M=lines12 init12 L:=⟨_,rfl⟩
 rw [←hM1] at hR2
 refine rnT ?_
 have hT: ∀ {o a b:Nat},o<12→a<12→b≤12→T12 L 40960000 (row12 o (rnd12 (all12 M1 o) o a) a b):=fun h1 h2 h3=>by rw [hM1]; exact table_at hL h1 h2 h3
 refine CW.lp [2,3,6] (fun o:Nat=> [(44,none,.int .i64 (o:Int))])
  (fun o W=>o≤12∧RS12 w W g2 g3 (all12 M1 o)) (fun o=>12-o) 0 ⟨Nat.zero_le _,by rw [all12_zero]; exact hR2⟩ ?_
 rintro o W3 ⟨ho,hR3⟩
 refine rnT ?_
 refine CW.condP rfl (fun hlto=> ?_) (fun hgeo=> ?_)
 ·refine rnT ?_
  refine CW.lp [2,3,6,9,44] (fun a:Nat=> [(47,none,.int .i64 (a:Int))])
   (fun a W=>a≤12∧RS12 w W g2 g3 (rnd12 (all12 M1 o) o a)) (fun a=>12-a) 0 ⟨Nat.zero_le _,by rw [rnd12_zero]; exact hR3⟩ ?_
  rintro a W4 ⟨ha,hR4⟩
  refine rnT ?_
  refine CW.condP rfl (fun hlta=> ?_) (fun hgea=> ?_)
  ·refine rnT ?_
   refine CW.lp [2,3,6,9,10,44,47] (fun b:Nat=> [(50,none,.int .i64 (b:Int))])
    (fun b W=>b≤12∧RS12 w W g2 g3 (row12 o (rnd12 (all12 M1 o) o a) a b)) (fun b=>12-b) 0 ⟨Nat.zero_le _,by rw [row12_zero]; exact hR4⟩ ?_
   rintro b W5 ⟨hb,hR5⟩
   refine rnT ?_
   refine CW.condP rfl (fun hltb=> ?_) (fun hgeb=> ?_)
   ·have ht5:=hT (o:=o) (a:=a) (b:=b) (by omega) (by omega) hb
    have hstep:=row12_succ o (rnd12 (all12 M1 o) o a) a b
    obtain ⟨M,hM⟩: ∃M,M=row12 o (rnd12 (all12 M1 o) o a) a b:=⟨_,rfl⟩
    rw [←hM] at hR5 ht5 hstep
    have c1:=tab_cell (a:=a) (b:=o) hR5.t ht5.len (by omega) (by omega)
    have c2:=tab_cell (a:=o) (b:=b) hR5.t ht5.len (by omega) (by omega)
    have r1:=ht5.rng a o (by omega) (by omega)
    have r2:=ht5.rng o b (by omega) (by omega)
    refine CW.skip (KW.then_ (CW.seq (CW.block (CW.seq (CW.region ?_)))))
    refine TW.v V.move rfl ⟨ct,trivial⟩ (fun _=>trivial) ?_
    refine TW.v V.assign rfl ⟨ct,trivial⟩ (fun _=>trivial) ?_
    refine TW.nil (KW.pick [2,3,6,9,10,11,44,47,50] [(2,_,_),(3,_,_),(6,_,_),(9,_,_),(10,_,_),(11,_,_),(44,_,_),(47,_,_),(50,_,_)] rfl (KW.then_ ?_))
    refine CW.seq (CW.region ?_)
    refine TW.v V.move rfl ⟨ct,trivial⟩ (fun _=>trivial) ?_
    refine TW.v V.move rfl ⟨ct,trivial⟩ (fun _=>trivial) ?_
    refine TW.v V.indexAddrA rfl ⟨ct,ct,trivial⟩ (fun _=>by (try dsimp only); omega) ?_
    refine TW.v V.indexAddrA rfl ⟨ct,ct,trivial⟩ (fun _=>by (try dsimp only); omega) ?_
    refine TW.ld rfl c1 ?_
    refine TW.v V.neq rfl ⟨ct,ct,trivial⟩ (fun _=>trivial) ?_
    refine TW.v V.move rfl ⟨ct,trivial⟩ (fun _=>trivial) ?_
    refine TW.v V.move rfl ⟨ct,trivial⟩ (fun _=>trivial) ?_
    refine TW.v V.move rfl ⟨ct,trivial⟩ (fun _=>trivial) ?_
    refine TW.v V.indexAddrA rfl ⟨ct,id,trivial⟩ (fun h=>by (try dsimp only); first|omega|(simp [Cnd] at h; omega)) ?_
    refine TW.v V.indexAddrA rfl ⟨id,id,trivial⟩ (fun h=>by (try dsimp only); first|omega|(simp [Cnd] at h; omega)) ?_
    refine TW.ld rfl c2 ?_
    refine rnT ?_
    refine CW.pk [2,3,6,9,10,11,44,47,50,66] rfl ?_
    refine CW.cond rfl (fun hboth=> ?_) (fun hnot=> ?_)
    ·have hv:via12 o a M b=relax12 M a b (g12 M a o+g12 M o b):=by unfold via12; rw [if_pos (by simpa using hboth)]
     refine CW.drawR mixed fun W6 hb6=> ?_
     refine RW.draw .weak 14 (by kernel_rfl) (by kernel_rfl) rfl rfl hb6 ?_
     refine DW.v V.move rfl ⟨ct,trivial⟩ (fun _=>trivial) ?_
     refine DW.v V.move rfl ⟨ct,trivial⟩ (fun _=>trivial) ?_
     refine DW.v V.move rfl ⟨ct,trivial⟩ (fun _=>trivial) ?_
     refine DW.v V.move rfl ⟨ct,trivial⟩ (fun _=>trivial) ?_
     refine DW.v V.move rfl ⟨ct,trivial⟩ (fun _=>trivial) ?_
     refine DW.v V.indexAddrA rfl ⟨ct,ct,trivial⟩ (fun _=>by (try dsimp only); omega) ?_
     refine DW.v V.indexAddrA rfl ⟨ct,ct,trivial⟩ (fun _=>by (try dsimp only); omega) ?_
     refine DW.ld rfl c1 ?_
     refine DW.v V.move rfl ⟨ct,trivial⟩ (fun _=>trivial) ?_
     refine DW.v V.move rfl ⟨ct,trivial⟩ (fun _=>trivial) ?_
     refine DW.v V.indexAddrA rfl ⟨ct,ct,trivial⟩ (fun _=>by (try dsimp only); omega) ?_
     refine DW.v V.indexAddrA rfl ⟨ct,ct,trivial⟩ (fun _=>by (try dsimp only); omega) ?_
     refine DW.ld rfl c2 ?_
     refine rnD ?_
     refine DW.nil (DW.fin [2,3,6,9,10,11,44,47,50,67,68,69,80] [(2,_,_),(3,_,_),(6,_,_),(9,_,_),(10,_,_),(11,_,_),(44,_,_),(47,_,_),(50,_,_),(67,_,_),(68,_,_),(69,_,_),(80,_,_)] rfl (fun w7 b7=>KW.rk' ?_))
     refine RW.one (by kernel_rfl) (by kernel_rfl) rfl ?_
     have hT7:=hR5.t.next b7
     refine TW.call0 rfl rfl en153 rfl (Args.cons rfl ct (Args.cons rfl ct (Args.cons rfl ct Args.nil))) (relax1_c (t:=g12 M a o+g12 M o b) hT7 ht5.len (by omega) (by omega)) ?_
     rintro y9 w9 ⟨hbut9,hsz9,hB9⟩
     refine TW.nil (KW.pick [2,3,6,9,10,11,44,47,50] [(2,_,_),(3,_,_),(6,_,_),(9,_,_),(10,_,_),(11,_,_),(44,_,_),(47,_,_),(50,_,_)] rfl (KW.rk ?_))
     refine RW.end rfl (KW.pick [2,3,6,9,10,11,44,47,50] [(2,_,_),(3,_,_),(6,_,_),(9,_,_),(10,_,_),(11,_,_),(44,_,_),(47,_,_),(50,_,_)] rfl (KW.blockN (KW.then_ ?_)))
     refine rnT ?_
     have hR7:RS12 w w7 g2 g3 M:=⟨hR5.b.step b7,hR5.z.next b7,hT7⟩
     refine KW.rd (b+1) ⟨by omega,?_⟩
     rw [hstep,hv]
     exact hput hR7 hbut9 hB9
    ·have hv:via12 o a M b=M:=by unfold via12; rw [if_neg (by simpa using hnot)]
     refine rnT ?_
     refine KW.rd (b+1) ⟨by omega,?_⟩
     rw [hstep,hv]
     exact hR5
   ·have hb12:b=12:=by omega
    subst hb12
    refine rnT ?_
    refine KW.rd (a+1) ⟨by omega,?_⟩
    rw [rnd12_succ]
    exact hR5
  ·have ha12:a=12:=by omega
   subst ha12
   refine rnT ?_
   refine KW.rd (o+1) ⟨by omega,?_⟩
   rw [all12_succ]
   exact hR4
 have ho12:o=12:=by omega
 subst ho12
 have hend:all12 M1 12=relaxed12 L:=by rw [hM1,relaxed12]
 rw [hend] at hR3
 have hlenE:=tabV_len (relaxed12_ok hL).1.len
 refine rnT ?_
 refine TW.loadA (tabV (relaxed12 L)) rfl rfl Tryz.underlying140 sz140 rfl ct (fun _=>fun j v hj=>hR3.t.fld hj) hlenE ?_
 refine TW.storeBlkF rfl rfl rfl hR3.z sz140 hlenE (tabV_len (initL_len 0)) (tabV_one _) ?_
 rintro w9 hB9 hbut9 hsz9
 refine rnT ?_
 exact retCA Tryz.results81 Tryz.underlying140 sz140 hlenE rfl hB9 ⟨hR3.b.grown hbut9 hR3.b.size (fun k hk=>by cases hk; omega),rfl⟩
theorem cons_ln12 (h:ConsOK keys11 N):LnOK 12 (lnOf N):=h.ln.1.more h.ln.2.1
theorem cons_nat (h:ConsOK keys11 N): ∀l∈N.lines,0≤l.frm∧0≤l.to:=fun l hl=>⟨(h.lines.good l hl).f1,(h.lines.good l hl).t1⟩
theorem check_c (ht:Tabs w) (hN:NetAt w v N):Gives Tryz.prog 36 #[.agg v.cells.toArray] w fun u w'=>Below w.heap.size w w'∧ ∃A n c,u= .slice A n c∧(n=0↔SoundOK keys11 N):=by
 have hform:=NetIn.form hN
 obtain ⟨vc,vn,vo,vf,vl,vk⟩:=v
 obtain ⟨⟨A1,c1,e1⟩,⟨A2,c2,e2⟩,⟨A3,c3,e3⟩,⟨A4,c4,e4⟩,⟨A5,c5,e5⟩,⟨A6,c6,e6⟩⟩:=id hform
 dsimp only at e1 e2 e3 e4 e5 e6
 subst e1 e2 e3 e4 e5 e6
 have m4:=hN.f.len.2.2
 refine gv (f:=36) ?_
 refine rnT ?_
 refine TW.box rfl rfl rfl rfl ?_
 rintro g1 w1 f1
 refine rnT ?_
 have hB1:=f1.blk
 have hN1:=net_step hN f1.below
 refine TW.ldS rfl (fun _ _ hv=>hB1.fld hv) ?_
 refine TW.cl rfl (incon_c (v:=⟨.slice A1 N.cals.length c1,.slice A2 N.names.length c2,.slice A3 N.ops.length c3,.slice A4 N.offs.length c4,.slice A5 N.lines.length c5,.slice A6 N.classes.length c6⟩) (ht.below f1.below) hN1) ?_
 rintro y2 w2 ⟨d2,n,hR,hn,hiff⟩
 obtain ⟨Y,yc,rfl⟩:=FRow.form hR
 have b2:=f1.below.step d2
 have hB2:=hB1.next d2
 refine rnT ?_
 refine CW.condP rfl (fun hbad=> ?_) (fun hgood=> ?_)
 ·refine rnT ?_
  refine rt1 rfl ⟨b2,_,_,_,rfl,⟨fun h=>by omega,fun h=>hiff.2 h.cons⟩⟩
 have hcons:ConsOK keys11 N:=hiff.1 (by omega)
 have hL:=cons_ln12 hcons
 have hn12:=hcons.ln.2.1
 obtain ⟨rel,hrel⟩: ∃r,r=relaxed12 (lnOf N):=⟨_,rfl⟩
 have hok:=relaxed12_ok hL
 rw [←hrel] at hok
 have hlen:=tabV_len hok.1.len
 have hn0:n=0:=by omega
 subst hn0
 refine rnT ?_
 refine TW.ldS rfl (fun _ _ hv=>hB2.fld hv) ?_
 refine TW.cl rfl (relaxed_c (v:=⟨.slice A1 N.cals.length c1,.slice A2 N.names.length c2,.slice A3 N.ops.length c3,.slice A4 N.offs.length c4,.slice A5 N.lines.length c5,.slice A6 N.classes.length c6⟩) (net_step hN1 d2) hL (cons_nat hcons)) ?_
 rintro y3 w3 ⟨d3,rfl⟩
 rw [←hrel]
 refine TW.newVar rfl zc140 rfl (hlen ▸ sz140) (by rw [hlen]; rfl) (tabV_one _) ?_
 rintro g4 w4 f4
 refine rnT ?_
 have hB4:=(hB2.next d3).next f4.below
 have hR4:=(hR.below d3).below f4.below
 have b4:=(b2.step d3).step f4.below
 have b14:Below w1.heap.size w1 w4:=(d2.step d3).step f4.below
 have hYg: ∀g,(Value.slice Y 0 yc).ownBlock=some g→g≠g4:=fun g hg e=>by
  obtain ⟨zs,q1,_⟩:=hR
  have:=q1.lt hg
  have:=f4.at_
  have:=d3.size
  omega
 refine TW.ld rfl (hB4.fld rfl) ?_
 refine rnT ?_
 refine CW.lp [1,4,17] (fun z:Nat×Value×Nat=> [(3,none,z.2.1),(18,none,.int .i64 (z.1:Int))])
  (fun z W=>z.1≤N.offs.length∧Below w1.heap.size w1 W∧Blk W g4 140 (tabV rel)∧FRow W w1.heap.size z.2.1 z.2.2∧(∀g,z.2.1.ownBlock=some g→g≠g4)∧z.2.2≤z.1∧(z.2.2=0↔ ∀a b,b<z.1→a<N.offs.length→ReachL (lnOf N) a b)) (fun z=>N.offs.length-z.1) (0,.slice Y 0 yc,0) ⟨Nat.zero_le _,b14,f4.blk,hR4,hYg,Nat.le_refl _,⟨fun _ a b hb=>by omega,fun _=>rfl⟩⟩ ?_
 rintro ⟨b,fv,n⟩ W ⟨hb,hW,hTW,⟨zs,hO,h2,h3⟩,h4g,hnb,hre⟩
 dsimp only at hb hO h3 h4g hnb hre
 have hB1W:=hB1.next hW
 refine rnT ?_
 refine CW.pk [1,3,4,17,18,19] rfl ?_
 refine CW.condP rfl (fun hlt=> ?_) (fun hge=> ?_)
 ·refine rnT ?_
  refine TW.ld rfl (hB1W.fld rfl) ?_
  refine rnT ?_
  refine CW.lp [1,3,4,5,17,18,23] (fun a:Nat=> [(24,none,.int .i64 (a:Int))])
   (fun a W'=>a≤N.offs.length∧W'=W∧ ∀i,i<a→ReachL (lnOf N) i b) (fun a=>N.offs.length-a) 0 ⟨Nat.zero_le _,rfl,fun i hi=>by omega⟩ ?_
  rintro a W' ⟨ha,rfl,hall⟩
  refine rnT ?_
  refine CW.condP rfl (fun hlt2=> ?_) (fun hge2=> ?_)
  ·have hc:=tab_cell (a:=a) (b:=b) hTW hok.1.len (by omega) (by omega)
   have hiffab:=hok.2 a b (by omega) (by omega)
   refine CW.skip (KW.then_ (CW.seq (CW.block (CW.seq (CW.region ?_)))))
   refine TW.v V.move rfl ⟨ct,trivial⟩ (fun _=>trivial) ?_
   refine TW.v V.assign rfl ⟨ct,trivial⟩ (fun _=>trivial) ?_
   refine TW.nil (KW.pick [1,3,4,5,6,17,18,23,24] [(1,_,_),(3,_,_),(4,_,_),(5,_,_),(6,_,_),(17,_,_),(18,_,_),(23,_,_),(24,_,_)] rfl (KW.then_ ?_))
   refine CW.seq (CW.region ?_)
   refine TW.v V.move rfl ⟨ct,trivial⟩ (fun _=>trivial) ?_
   refine TW.v V.move rfl ⟨ct,trivial⟩ (fun _=>trivial) ?_
   refine TW.v V.indexAddrA rfl ⟨ct,ct,trivial⟩ (fun _=>by (try dsimp only); omega) ?_
   refine TW.v V.indexAddrA rfl ⟨ct,ct,trivial⟩ (fun _=>by (try dsimp only); omega) ?_
   refine TW.ld rfl hc ?_
   refine rnT ?_
   refine CW.condP rfl (fun hno=> ?_) (fun hyes=> ?_)
   ·have hnr:=hiffab.1 hno
    refine rnT ?_
    refine TW.build [0,1,2] _ [.int .i64 3,.int .i64 (b:Int),.int .i64 111] rfl rfl rfl (Args.cons rfl ct (Args.cons rfl ct (Args.cons rfl ct Args.nil))) (by kernel_rfl) ?_
    refine TW.buildSlice 167 _ rfl rfl rfl eo85 (Args.cons rfl ct Args.nil) rfl rfl rfl rfl rfl ?_
    rintro g5 w5 f5
    refine TW.append [.int .i64 3,.int .i64 (b:Int),.int .i64 111] rfl rfl go85 rfl (hO.below f5.below) rfl rfl (fun j u hj=>⟨_,rfl,f5.blk.fld hj⟩) (fun u hu=>by simp at hu; rcases hu with rfl|rfl|rfl<;>rfl) (by omega) (by omega) ?_
    rintro fv' w6 hO6 hg6 hn6
    refine rnT ?_
    have hW2:=hW.step f5.below
    refine KW.rd (b+1,fv',n+1) ⟨by show b+1≤_; omega,?_,GB.blk hg6 (hTW.next f5.below) (fun e=>h4g _ e rfl),FRow.app (w:=w5) h3 h2 (fun u hu=>by simp at hu; rcases hu with rfl|rfl|rfl<;>rfl) hO6 hn6 hW2.size,fun g hg=> ?_,by show n+1≤b+1; omega,⟨fun h=>absurd h (Nat.succ_ne_zero n),fun h=>absurd (h a b (by show b<b+1; omega) (by omega)) hnr⟩⟩
    ·exact hW2.grown hg6 hW2.size h3
    ·rcases hn6 with h|h
     ·exact h4g g (by rw [←h]; exact hg)
     ·rw [h] at hg
      cases hg
      have:=hTW.lt
      have:=f5.below.size
      omega
   ·have hr:ReachL (lnOf N) a b:=Classical.byContradiction fun h=>hyes (hiffab.2 h)
    refine rnT ?_
    refine KW.rd (a+1) ⟨by omega,rfl,fun i hi=> ?_⟩
    rcases Nat.lt_or_ge i a with h|h
    ·exact hall i h
    ·have:i=a:=by omega
     subst this
     exact hr
  ·refine rnT ?_
   refine KW.rd (b+1,fv,n) ⟨by show b+1≤_; omega,hW,hTW,⟨zs,hO,h2,h3⟩,h4g,by show n≤b+1; omega,?_⟩
   show n=0↔ ∀x y,y<b+1→x<N.offs.length→ReachL (lnOf N) x y
   rw [hre]
   refine ⟨fun h x y hy hx=> ?_,fun h x y hy hx=>h x y (by omega) hx⟩
   rcases Nat.lt_or_ge y b with h'|h'
   ·exact h x y h' hx
   ·have:y=b:=by omega
    subst this
    exact hall x (by omega)
 ·have hbl:b=N.offs.length:=by omega
  subst hbl
  obtain ⟨Z,zc,hzv,_⟩:=hO.form
  subst hzv
  refine rnT ?_
  refine rt1 rfl ⟨f1.below.step hW,_,_,_,rfl,?_⟩
  rw [hre]
  exact ⟨fun h=>⟨hcons,fun a b ha hb=>h a b hb ha⟩,fun h a b hb ha=>h.all a b ha hb⟩
end Go.Proofs.YtobaafdejnimkaaGreatDoor
