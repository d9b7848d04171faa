/- Texts of this claim,joined. -/
import Derived.Test.YtobaafdejnimkaaGreatDoorQL
set_option linter.unusedSimpArgs false
set_option linter.unusedVariables false
set_option maxRecDepth 100000
set_option maxHeartbeats 4000000
namespace Go.Proofs.YtobaafdejnimkaaGreatDoor
open Go.PF Go.RowKit Go.Ord
attribute [local irreducible] TW CW KW DW
variable {w:World} {i kn g8 kg g g9 g7 lim:Nat} {F:Nat→Prop} {capn capg:List Value} {s:ByteArray} {v:Value} {N:Net} {nm:List ByteArray} {kd:Int}
theorem ru1Opr_c (ht:Tabs w) (hB:Blk w g8 188 [.func (.func kn) #[] capn.toArray]) (hen:enters Tryz.prog kn=true) (hn:NameF w kn capn i s) :
  Gives Tryz.prog 196 #[.int .i64 (i:Int),.pointer (some ⟨g8,0,none⟩)] w fun u w'=>Below w.heap.size w w'∧u= .int .i64 (res1 s):=by
 refine gv (f:=196) ?_
 refine rnT ?_
 refine TW.ld rfl (hB.cell 0) ?_
 refine rnT ?_
 refine TW.call0 rfl rfl hen rfl (Args.cons rfl ct Args.nil) (hn w (Below.refl _ _)) ?_
 rintro y1 w1 ⟨c1,rfl⟩
 refine TW.cl rfl (isName_c (ht.below c1)) ?_
 rintro y2 w2 ⟨c2,rfl⟩
 refine rnT ?_
 refine CW.cond rfl (fun h1=> ?_) (fun h2=> ?_)
 ·refine rnT ?_
  refine rt1 rfl ⟨c1.step c2,?_⟩
  unfold res1
  cases hq:dec (NameOK keys11 s) with
  | true=>rw [hq] at h1; simp at h1
  | false=>rfl
 ·refine rnT ?_
  refine rt1 rfl ⟨c1.step c2,?_⟩
  unfold res1
  cases hq:dec (NameOK keys11 s) with
  | true=>rfl
  | false=>rw [hq] at h2; simp at h2
theorem ru2Opr_c (hB:Blk w g8 188 [.func (.func kn) #[] capn.toArray]) (hen:enters Tryz.prog kn=true) (hn: ∀j x,nm[j]?=some x→NameF w kn capn j x) (hs:nm[i]?=some s) (hi:i≤1000000) :
  Gives Tryz.prog 197 #[.int .i64 (i:Int),.pointer (some ⟨g8,0,none⟩)] w fun u w'=>Below w.heap.size w w'∧u= .int .i64 (res2 nm i s):=by
 refine gv (f:=197) ?_
 refine rnT ?_
 refine CW.lp [0,1,5] (fun k:Nat=> [(6,none,.int .i64 (k:Int))])
  (fun k W=>k≤i∧Below w.heap.size w W∧s ∉ nm.take k) (fun k=>i-k) 0 ⟨Nat.zero_le _,Below.refl _ _,by simp⟩ ?_
 rintro k W ⟨hk,hW,hno⟩
 have hil:=(List.getElem?_eq_some_iff.1 hs).1
 refine rnT ?_
 refine CW.condP rfl (fun hlt=> ?_) (fun hge=> ?_)
 ·obtain ⟨x,hx,hxm⟩:=getx (l:=nm) (k:=k) (by omega)
  have hBW:=hB.next hW
  refine rnT ?_
  refine CW.draw mixed (by kernel_rfl) ?_
  refine DW.ld rfl (hBW.cell 0) ?_
  refine rnD ?_
  refine DW.call (.ex (.string x)) trivial rfl rfl hen rfl ct (DArgs.cons rfl ct DArgs.nil) (fun _ w' hb'=>hn k x hx w' (hW.step hb')) ?_
  refine DW.ld rfl (hBW.cell 0) ?_
  refine rnD ?_
  refine DW.call (.ex (.string s)) trivial rfl rfl hen rfl ct (DArgs.cons rfl ct DArgs.nil) (fun _ w' hb'=>hn i s hs w' (hW.step hb')) ?_
  refine rnD ?_
  rw [beqL]
  refine DW.fi [0,1,4,5,6,15] rfl fun w3 b3=> ?_
  refine KW.then_ ?_
  refine CW.cond rfl (fun heq=> ?_) (fun hne=> ?_)
  ·refine rnT ?_
   refine rt1 rfl ⟨hW.step b3,?_⟩
   have hxs:x=s:=of_decide_eq_true heq
   subst hxs
   unfold res2
   rw [dec_pos (List.mem_of_getElem? (i:=k) (by rw [List.getElem?_take_of_lt (by omega)]; exact hx))]
   rfl
  ·refine rnT ?_
   refine KW.rd (k+1) ⟨by omega,hW.step b3,fun h=> ?_⟩
   rw [List.take_add_one,hx] at h
   rcases List.mem_append.1 h with h|h
   ·exact hno h
   ·simp at h
    exact of_decide_eq_false hne h.symm
 ·refine rnT ?_
  refine rt1 rfl ⟨hW,?_⟩
  have:k=i:=by omega
  subst this
  unfold res2
  rw [dec_neg hno]
  rfl
theorem ru3Opr_c {l:List ByteArray} {x:ByteArray} {G:ByteArray→Prop} (hB9:Blk w g9 191 [.func (.func kg) #[] capg.toArray]) (hB7:Blk w g7 24 [v]) (hen:enters Tryz.prog kg=true) (hl:SL strT F w v l) (hx:l[i]?=some x)
 (hg: ∀cs W,Below w.heap.size w W→strT.rep F W cs x→Gives Tryz.prog kg (.agg cs.toArray::capg).toArray W fun u W'=>Below W.heap.size W W'∧u= .bool (dec (G x))) :
  Gives Tryz.prog 198 #[.int .i64 (i:Int),.pointer (some ⟨g9,0,none⟩),.pointer (some ⟨g7,0,none⟩)] w fun u w'=>Below w.heap.size w w'∧u= .int .i64 (res3 G x):=by
 obtain ⟨A,cap,rfl,_⟩:=hl.form
 have hil:=(List.getElem?_eq_some_iff.1 hx).1
 have hmax:=hl.len.2.2
 obtain ⟨ad,rfl⟩:=hl.addr (by omega)
 obtain ⟨ad',cs,e1,hF,hrep,hc⟩:=hl.at hx
 cases e1
 have hrep0:=hrep
 obtain ⟨rfl,zz⟩:=hrep
 refine gv (f:=198) ?_
 refine rnT ?_
 refine CW.draw mixed (by kernel_rfl) ?_
 refine DW.ld rfl (hB9.cell 0) ?_
 refine DW.ld rfl (hB7.cell 0) ?_
 refine rnD ?_
 refine DW.ldS rfl (hc) ?_
 refine DW.call (.ex (.bool (dec (G x)))) trivial rfl rfl hen rfl ct (DArgs.cons rfl ct DArgs.nil) (fun _ w' hb'=>hg _ w' hb' (strT.mono _ _ _ _ _ (Kept.of_below hb') hrep0)) ?_
 refine rnD ?_
 refine DW.fi [0,1,2,4,11] rfl fun w3 b3=> ?_
 refine KW.then_ ?_
 refine CW.cond rfl (fun h1=> ?_) (fun h2=> ?_)
 ·refine rnT ?_
  refine rt1 rfl ⟨b3,?_⟩
  unfold res3
  cases hq:dec (G x) with
  | true=>rw [hq] at h1; simp at h1
  | false=>rfl
 ·refine rnT ?_
  refine rt1 rfl ⟨b3,?_⟩
  unfold res3
  cases hq:dec (G x) with
  | true=>rfl
  | false=>rw [hq] at h2; simp at h2
theorem checkOpr_c {l:List ByteArray} {G:ByteArray→Prop} (ht:Tabs w) (hl:SL strT F w v l) (hen:enters Tryz.prog kn=true) (heg:enters Tryz.prog kg=true) (hlim:lim≤1000)
 (hnl:nm.length=l.length) (hn: ∀j x,nm[j]?=some x→NameF w kn capn j x) (hg: ∀(i:Nat) (x:ByteArray),l[i]?=some x→ ∀cs W,Below w.heap.size w W→strT.rep F W cs x→Gives Tryz.prog kg (.agg cs.toArray::capg).toArray W fun u W'=>Below W.heap.size W W'∧u= .bool (dec (G x))) :
    Gives Tryz.prog 121 #[.int .i64 kd,.int .i64 (lim:Int),v,.func (.func kn) #[] capn.toArray,.func (.func kg) #[] capg.toArray] w fun u w'=>Below w.heap.size w w'∧ ∃n,FRow w' w.heap.size u n∧n≤lim+1∧(n=0↔KindOK keys11 lim nm l G):=by
  obtain ⟨A,cap,rfl,_⟩:=hl.form
  have hmax:=hl.len.2.2
  refine gv (f:=121) ?_
  refine rnT ?_
  refine TW.box rfl rfl rfl rfl ?_
  rintro g7 w7 f7
  refine TW.box rfl rfl rfl rfl ?_
  rintro g8 w8 f8
  refine TW.box rfl rfl rfl rfl ?_
  rintro g9 w9 f9
  refine rnT ?_
  refine TW.makeFunc rfl rfl (Args.cons rfl ct Args.nil) ?_
  refine TW.makeFunc rfl rfl (Args.cons rfl ct Args.nil) ?_
  refine TW.makeFunc rfl rfl (Args.cons rfl ct (Args.cons rfl ct Args.nil)) ?_
  have hB7:=(f7.blk.next f8.below).next f9.below
  have hB8:=f8.blk.next f9.below
  have hB9:=f9.blk
  have b9:=(f7.below.step f8.below).step f9.below
  refine TW.build [0,1,2] _ [.func (.func 196) #[] #[.pointer (some ⟨g8,0,none⟩)],.func (.func 197) #[] #[.pointer (some ⟨g8,0,none⟩)],.func (.func 198) #[] #[.pointer (some ⟨g9,0,none⟩),.pointer (some ⟨g7,0,none⟩)]] rfl rfl rfl (Args.cons rfl ct (Args.cons rfl ct (Args.cons rfl ct Args.nil))) (by kernel_rfl) ?_
  refine TW.newVar rfl zc251 rfl sz251 rfl rfl ?_
  rintro g11 w11 f11
  refine rnT ?_
  have hB7:=(hB7.next f11.below)
  have hB8:=(hB8.next f11.below)
  have hB9:=(hB9.next f11.below)
  have hB11:=f11.blk
  have b11:=b9.step f11.below
  refine TW.ld rfl (hB7.cell 0) ?_
  refine rnT ?_
  refine TW.v V.minI rfl ⟨ct,ct,trivial⟩ (fun _=>trivial) ?_
  refine rnT ?_
  refine CW.lp [0,1,7,11,24] (fun z:Nat×Value×Nat=> [(12,none,z.2.1),(25,none,.int .i64 (z.1:Int))])
    (fun z W=>z.1≤min l.length lim∧Below w11.heap.size w11 W∧FRow W w11.heap.size z.2.1 z.2.2∧z.2.2≤z.1∧(z.2.2=0↔ ∀j,j<z.1→GoodAt nm l G j)) (fun z=>min l.length lim-z.1) (0,.slice none 0 0,0) ⟨Nat.zero_le _,Below.refl _ _,FRow.nil _ _,Nat.le_refl _,⟨fun _ j hj=>by omega,fun _=>rfl⟩⟩ ?_
  rintro ⟨i,fv,n⟩ W ⟨hi,hW,⟨zs,hO,h2,h3⟩,hni,hgd⟩
  dsimp only at hi hO h3 hni hgd
  have hbW:=b11.step hW
  refine rnT ?_
  refine CW.pk [0,1,7,11,12,24,25,26] rfl ?_
  refine CW.condP rfl (fun hlt=> ?_) (fun hge=> ?_)
  · obtain ⟨x,hx,hxm⟩:=getx (l:=l) (k:=i) (by omega)
    obtain ⟨s,hs,hsm⟩:=getx (l:=nm) (k:=i) (by omega)
    have hB11W:=hB11.next hW
    refine rnT ?_
    refine TW.loadA _ rfl rfl Tryz.underlying251 sz251 rfl ct (fun _=>(fun _ _ hv=>hB11W.fld hv)) rfl ?_
    refine rnT ?_
    refine CW.lp [0,1,7,11,12,13,24,25,28] (fun k:Nat=> [(29,none,.int .i64 (k:Int))])
      (fun k W'=>k≤3∧Below W.heap.size W W'∧(0<k→res1 s=0)∧(1<k→res2 nm i s=0)∧(2<k→res3 G x=0)) (fun k=>3-k) 0 ⟨Nat.zero_le _,Below.refl _ _,fun h=>by omega,fun h=>by omega,fun h=>by omega⟩ ?_
    rintro k W' ⟨hk,hW',hr1,hr2,hr3⟩
    have hbW':=hbW.step hW'
    have hnW: ∀j y,nm[j]?=some y→NameF W' kn capn j y:=fun j y hj=>(hn j y hj).below hbW'
    have hB7':=hB7.next (hW.step hW')
    have hB8':=hB8.next (hW.step hW')
    have hB9':=hB9.next (hW.step hW')
    have hlW:=hl.below hbW'
    refine rnT ?_
    refine CW.condP rfl (fun hlt3=> ?_) (fun hge3=> ?_)
    · have hk3:k<3:=by omega
      refine CW.skip (KW.then_ (CW.seq (CW.block (CW.seq (CW.region ?_)))))
      obtain ⟨kf,cp,r,hkf,hen',hcl,z1,z2,z3⟩: ∃(kf:Nat) (cp:List Value) (r:Int),[Value.func (.func 196) #[] #[.pointer (some ⟨g8,0,none⟩)],.func (.func 197) #[] #[.pointer (some ⟨g8,0,none⟩)],.func (.func 198) #[] #[.pointer (some ⟨g9,0,none⟩),.pointer (some ⟨g7,0,none⟩)]][((k:Nat):Int).toNat]?=some (.func (.func kf) #[] cp.toArray)∧enters Tryz.prog kf=true∧Gives Tryz.prog kf (.int .i64 (i:Int)::cp).toArray W' (fun u w'=>Below W'.heap.size W' w'∧u= .int .i64 r)∧(k=0→r=res1 s)∧(k=1→r=res2 nm i s)∧(k=2→r=res3 G x):=by
        obtain rfl|rfl|rfl:k=0∨k=1∨k=2:=by omega
        · exact ⟨_,[_],_,rfl,en196,ru1Opr_c (ht.below hbW') hB8' hen (hnW i s hs),fun _=>rfl,fun h=>by omega,fun h=>by omega⟩
        · exact ⟨_,[_],_,rfl,en197,ru2Opr_c hB8' hen hnW hs (by omega),fun h=>by omega,fun _=>rfl,fun h=>by omega⟩
        · exact ⟨_,[_,_],_,rfl,en198,ru3Opr_c hB9' hB7' heg hlW hx (fun cs X hX hr=>hg i x hx cs X (hbW'.step hX) hr),fun h=>by omega,fun h=>by omega,fun _=>rfl⟩
      refine TW.indexV rfl rfl Tryz.underlying251 one250 sz250 rfl ct rfl ct (fun _=>by (try dsimp only); omega) (fun _=>hkf) ?_
      refine rnT ?_
      refine TW.call0 rfl rfl hen' rfl (Args.cons rfl ct Args.nil) (hcl) ?_
      rintro y1 w1 ⟨c1,rfl⟩
      refine rnT ?_
      refine CW.cond rfl (fun hne=> ?_) (fun heq=> ?_)
      · have hbad:r≠0:=by simpa using hne
        refine rnT ?_
        refine TW.build [0,1,2] _ [.int .i64 kd,.int .i64 (i:Int),.int .i64 r] rfl rfl rfl (Args.cons rfl ct (Args.cons rfl ct (Args.cons rfl ct Args.nil))) (by kernel_rfl) ?_
        refine TW.buildSlice 167 _ rfl rfl rfl eo85 (Args.cons rfl ct Args.nil) rfl rfl rfl rfl rfl ?_
        rintro g2 w2 f2
        have hW1:=(hW.step hW').step c1
        refine TW.append [.int .i64 kd,.int .i64 (i:Int),.int .i64 r] rfl rfl go85 rfl (((hO.below hW').below c1).below f2.below) rfl rfl (fun j u hj=>⟨_,rfl,f2.blk.fld hj⟩) (fun u hu=>by simp at hu; rcases hu with rfl|rfl|rfl<;>rfl) (by omega) (by omega) ?_
        rintro fv' w3 hO3 hg3 hn3
        refine rnT ?_
        have hW2:=hW1.step f2.below
        refine KW.rd (i+1,fv',n+1) ⟨by show i+1≤_; omega,hW2.grown hg3 hW2.size h3,FRow.app (w:=w2) h3 h2 (fun u hu=>by simp at hu; rcases hu with rfl|rfl|rfl<;>rfl) hO3 hn3 hW2.size,by show n+1≤i+1; omega,⟨fun h=>absurd h (Nat.succ_ne_zero n),fun h=> ?_⟩⟩
        obtain ⟨q1,q2,q3⟩:=(goodAt_iff hx hs).1 (h i (by show i<i+1; omega))
        exact absurd (show r = 0 by obtain h | h | h : k = 0 ∨ k = 1 ∨ k = 2 := by omega
                                    · rw [z1 h,q1]
                                    · rw [z2 h,q2]
                                    · rw [z3 h,q3]) hbad
      · have hgood:r=0:=by simpa using heq
        refine rnT ?_
        refine KW.rd (k+1) ⟨by omega,hW'.step c1,fun _=> ?_,fun _=> ?_,fun _=> ?_⟩
        · by_cases h:k=0
          · rw [←z1 h,hgood]
          · exact hr1 (by omega)
        · by_cases h:k=1
          · rw [←z2 h,hgood]
          · exact hr2 (by omega)
        · by_cases h:k=2
          · rw [←z3 h,hgood]
          · exact hr3 (by omega)
    · have hk3:k=3:=by omega
      subst hk3
      refine rnT ?_
      refine KW.rd (i+1,fv,n) ⟨by show i+1≤_; omega,hW.step hW',⟨zs,hO.below hW',h2,h3⟩,by show n≤i+1; omega,?_⟩
      show n=0↔ ∀j,j<i+1→GoodAt nm l G j
      rw [hgd]
      refine ⟨fun h j hj=> ?_,fun h j hj=>h j (by omega)⟩
      rcases Nat.lt_or_ge j i with h'|h'
      · exact h j h'
      · have:j=i:=by omega
        subst this
        exact (goodAt_iff hx hs).2 ⟨hr1 (by omega),hr2 (by omega),hr3 (by omega)⟩
  have hie:i=min l.length lim:=by omega
  have h3: ∀g,fv.ownBlock=some g→w.heap.size≤g:=fun g hg=>Nat.le_trans b11.size (h3 g hg)
  refine rnT ?_
  refine TW.ld rfl ((hB7.next hW).cell 0) ?_
  refine rnT ?_
  refine CW.pk [0,1,7,11,12,24,25,49] rfl ?_
  refine CW.condP rfl (fun hbig=> ?_) (fun hsmall=> ?_)
  · refine rnT ?_
    refine TW.build [0,1,2] _ [.int .i64 kd,.int .i64 (lim:Int),.int .i64 2] rfl rfl rfl (Args.cons rfl ct (Args.cons rfl ct (Args.cons rfl ct Args.nil))) (by kernel_rfl) ?_
    refine TW.buildSlice 167 _ rfl rfl rfl eo85 (Args.cons rfl ct Args.nil) rfl rfl rfl rfl rfl ?_
    rintro g2 w2 f2
    refine TW.append [.int .i64 kd,.int .i64 (lim:Int),.int .i64 2] rfl rfl go85 rfl (hO.below f2.below) rfl rfl (fun j u hj=>⟨_,rfl,f2.blk.fld hj⟩) (fun u hu=>by simp at hu; rcases hu with rfl|rfl|rfl<;>rfl) (by omega) (by omega) ?_
    rintro fv' w3 hO3 hg3 hn3
    refine rnT ?_
    have hb2:=hbW.step f2.below
    refine rt1 rfl ⟨hb2.grown hg3 hb2.size (fun q hq=>h3 q hq),n+1,FRow.app (w:=w2) h3 h2 (fun u hu=>by simp at hu; rcases hu with rfl|rfl|rfl<;>rfl) hO3 hn3 hb2.size,by omega,⟨fun h=>by omega,fun h=> ?_⟩⟩
    have:=h.few
    omega
  · refine rnT ?_
    refine rt1 rfl ⟨hbW,n,⟨zs,hO,h2,h3⟩,by omega,?_⟩
    rw [kind_iff hnl,hgd,hie]
    exact ⟨fun h=>⟨by omega,h⟩,fun h=>h.2⟩
theorem ru1Off_c (ht:Tabs w) (hB:Blk w g8 188 [.func (.func kn) #[] capn.toArray]) (hen:enters Tryz.prog kn=true) (hn:NameF w kn capn i s) :
  Gives Tryz.prog 199 #[.int .i64 (i:Int),.pointer (some ⟨g8,0,none⟩)] w fun u w'=>Below w.heap.size w w'∧u= .int .i64 (res1 s):=by
 refine gv (f:=199) ?_
 refine rnT ?_
 refine TW.ld rfl (hB.cell 0) ?_
 refine rnT ?_
 refine TW.call0 rfl rfl hen rfl (Args.cons rfl ct Args.nil) (hn w (Below.refl _ _)) ?_
 rintro y1 w1 ⟨c1,rfl⟩
 refine TW.cl rfl (isName_c (ht.below c1)) ?_
 rintro y2 w2 ⟨c2,rfl⟩
 refine rnT ?_
 refine CW.cond rfl (fun h1=> ?_) (fun h2=> ?_)
 ·refine rnT ?_
  refine rt1 rfl ⟨c1.step c2,?_⟩
  unfold res1
  cases hq:dec (NameOK keys11 s) with
  | true=>rw [hq] at h1; simp at h1
  | false=>rfl
 ·refine rnT ?_
  refine rt1 rfl ⟨c1.step c2,?_⟩
  unfold res1
  cases hq:dec (NameOK keys11 s) with
  | true=>rfl
  | false=>rw [hq] at h2; simp at h2
theorem ru2Off_c (hB:Blk w g8 188 [.func (.func kn) #[] capn.toArray]) (hen:enters Tryz.prog kn=true) (hn: ∀j x,nm[j]?=some x→NameF w kn capn j x) (hs:nm[i]?=some s) (hi:i≤1000000) :
  Gives Tryz.prog 200 #[.int .i64 (i:Int),.pointer (some ⟨g8,0,none⟩)] w fun u w'=>Below w.heap.size w w'∧u= .int .i64 (res2 nm i s):=by
 refine gv (f:=200) ?_
 refine rnT ?_
 refine CW.lp [0,1,5] (fun k:Nat=> [(6,none,.int .i64 (k:Int))])
  (fun k W=>k≤i∧Below w.heap.size w W∧s ∉ nm.take k) (fun k=>i-k) 0 ⟨Nat.zero_le _,Below.refl _ _,by simp⟩ ?_
 rintro k W ⟨hk,hW,hno⟩
 have hil:=(List.getElem?_eq_some_iff.1 hs).1
 refine rnT ?_
 refine CW.condP rfl (fun hlt=> ?_) (fun hge=> ?_)
 ·obtain ⟨x,hx,hxm⟩:=getx (l:=nm) (k:=k) (by omega)
  have hBW:=hB.next hW
  refine rnT ?_
  refine CW.draw mixed (by kernel_rfl) ?_
  refine DW.ld rfl (hBW.cell 0) ?_
  refine rnD ?_
  refine DW.call (.ex (.string x)) trivial rfl rfl hen rfl ct (DArgs.cons rfl ct DArgs.nil) (fun _ w' hb'=>hn k x hx w' (hW.step hb')) ?_
  refine DW.ld rfl (hBW.cell 0) ?_
  refine rnD ?_
  refine DW.call (.ex (.string s)) trivial rfl rfl hen rfl ct (DArgs.cons rfl ct DArgs.nil) (fun _ w' hb'=>hn i s hs w' (hW.step hb')) ?_
  refine rnD ?_
  rw [beqL]
  refine DW.fi [0,1,4,5,6,15] rfl fun w3 b3=> ?_
  refine KW.then_ ?_
  refine CW.cond rfl (fun heq=> ?_) (fun hne=> ?_)
  ·refine rnT ?_
   refine rt1 rfl ⟨hW.step b3,?_⟩
   have hxs:x=s:=of_decide_eq_true heq
   subst hxs
   unfold res2
   rw [dec_pos (List.mem_of_getElem? (i:=k) (by rw [List.getElem?_take_of_lt (by omega)]; exact hx))]
   rfl
  ·refine rnT ?_
   refine KW.rd (k+1) ⟨by omega,hW.step b3,fun h=> ?_⟩
   rw [List.take_add_one,hx] at h
   rcases List.mem_append.1 h with h|h
   ·exact hno h
   ·simp at h
    exact of_decide_eq_false hne h.symm
 ·refine rnT ?_
  refine rt1 rfl ⟨hW,?_⟩
  have:k=i:=by omega
  subst this
  unfold res2
  rw [dec_neg hno]
  rfl
theorem ru3Off_c {l:List Of} {x:Of} {G:Of→Prop} (hB9:Blk w g9 194 [.func (.func kg) #[] capg.toArray]) (hB7:Blk w g7 25 [v]) (hen:enters Tryz.prog kg=true) (hl:SL ofT F w v l) (hx:l[i]?=some x)
 (hg: ∀cs W,Below w.heap.size w W→ofT.rep F W cs x→Gives Tryz.prog kg (.agg cs.toArray::capg).toArray W fun u W'=>Below W.heap.size W W'∧u= .bool (dec (G x))) :
  Gives Tryz.prog 201 #[.int .i64 (i:Int),.pointer (some ⟨g9,0,none⟩),.pointer (some ⟨g7,0,none⟩)] w fun u w'=>Below w.heap.size w w'∧u= .int .i64 (res3 G x):=by
 obtain ⟨A,cap,rfl,_⟩:=hl.form
 have hil:=(List.getElem?_eq_some_iff.1 hx).1
 have hmax:=hl.len.2.2
 obtain ⟨ad,rfl⟩:=hl.addr (by omega)
 obtain ⟨ad',cs,e1,hF,hrep,hc⟩:=hl.at hx
 cases e1
 have hrep0:=hrep
 obtain ⟨zv,rfl,zz⟩:=hrep
 refine gv (f:=201) ?_
 refine rnT ?_
 refine CW.draw mixed (by kernel_rfl) ?_
 refine DW.ld rfl (hB9.cell 0) ?_
 refine DW.ld rfl (hB7.cell 0) ?_
 refine rnD ?_
 refine DW.ldS rfl (hc) ?_
 refine DW.call (.ex (.bool (dec (G x)))) trivial rfl rfl hen rfl ct (DArgs.cons rfl ct DArgs.nil) (fun _ w' hb'=>hg _ w' hb' (ofT.mono _ _ _ _ _ (Kept.of_below hb') hrep0)) ?_
 refine rnD ?_
 refine DW.fi [0,1,2,4,11] rfl fun w3 b3=> ?_
 refine KW.then_ ?_
 refine CW.cond rfl (fun h1=> ?_) (fun h2=> ?_)
 ·refine rnT ?_
  refine rt1 rfl ⟨b3,?_⟩
  unfold res3
  cases hq:dec (G x) with
  | true=>rw [hq] at h1; simp at h1
  | false=>rfl
 ·refine rnT ?_
  refine rt1 rfl ⟨b3,?_⟩
  unfold res3
  cases hq:dec (G x) with
  | true=>rfl
  | false=>rw [hq] at h2; simp at h2
theorem checkOff_c {l:List Of} {G:Of→Prop} (ht:Tabs w) (hl:SL ofT F w v l) (hen:enters Tryz.prog kn=true) (heg:enters Tryz.prog kg=true) (hlim:lim≤1000)
 (hnl:nm.length=l.length) (hn: ∀j x,nm[j]?=some x→NameF w kn capn j x) (hg: ∀(i:Nat) (x:Of),l[i]?=some x→ ∀cs W,Below w.heap.size w W→ofT.rep F W cs x→Gives Tryz.prog kg (.agg cs.toArray::capg).toArray W fun u W'=>Below W.heap.size W W'∧u= .bool (dec (G x))) :
    Gives Tryz.prog 124 #[.int .i64 kd,.int .i64 (lim:Int),v,.func (.func kn) #[] capn.toArray,.func (.func kg) #[] capg.toArray] w fun u w'=>Below w.heap.size w w'∧ ∃n,FRow w' w.heap.size u n∧n≤lim+1∧(n=0↔KindOK keys11 lim nm l G):=by
  obtain ⟨A,cap,rfl,_⟩:=hl.form
  have hmax:=hl.len.2.2
  refine gv (f:=124) ?_
  refine rnT ?_
  refine TW.box rfl rfl rfl rfl ?_
  rintro g7 w7 f7
  refine TW.box rfl rfl rfl rfl ?_
  rintro g8 w8 f8
  refine TW.box rfl rfl rfl rfl ?_
  rintro g9 w9 f9
  refine rnT ?_
  refine TW.makeFunc rfl rfl (Args.cons rfl ct Args.nil) ?_
  refine TW.makeFunc rfl rfl (Args.cons rfl ct Args.nil) ?_
  refine TW.makeFunc rfl rfl (Args.cons rfl ct (Args.cons rfl ct Args.nil)) ?_
  have hB7:=(f7.blk.next f8.below).next f9.below
  have hB8:=f8.blk.next f9.below
  have hB9:=f9.blk
  have b9:=(f7.below.step f8.below).step f9.below
  refine TW.build [0,1,2] _ [.func (.func 199) #[] #[.pointer (some ⟨g8,0,none⟩)],.func (.func 200) #[] #[.pointer (some ⟨g8,0,none⟩)],.func (.func 201) #[] #[.pointer (some ⟨g9,0,none⟩),.pointer (some ⟨g7,0,none⟩)]] rfl rfl rfl (Args.cons rfl ct (Args.cons rfl ct (Args.cons rfl ct Args.nil))) (by kernel_rfl) ?_
  refine TW.newVar rfl zc251 rfl sz251 rfl rfl ?_
  rintro g11 w11 f11
  refine rnT ?_
  have hB7:=(hB7.next f11.below)
  have hB8:=(hB8.next f11.below)
  have hB9:=(hB9.next f11.below)
  have hB11:=f11.blk
  have b11:=b9.step f11.below
  refine TW.ld rfl (hB7.cell 0) ?_
  refine rnT ?_
  refine TW.v V.minI rfl ⟨ct,ct,trivial⟩ (fun _=>trivial) ?_
  refine rnT ?_
  refine CW.lp [0,1,7,11,24] (fun z:Nat×Value×Nat=> [(12,none,z.2.1),(25,none,.int .i64 (z.1:Int))])
    (fun z W=>z.1≤min l.length lim∧Below w11.heap.size w11 W∧FRow W w11.heap.size z.2.1 z.2.2∧z.2.2≤z.1∧(z.2.2=0↔ ∀j,j<z.1→GoodAt nm l G j)) (fun z=>min l.length lim-z.1) (0,.slice none 0 0,0) ⟨Nat.zero_le _,Below.refl _ _,FRow.nil _ _,Nat.le_refl _,⟨fun _ j hj=>by omega,fun _=>rfl⟩⟩ ?_
  rintro ⟨i,fv,n⟩ W ⟨hi,hW,⟨zs,hO,h2,h3⟩,hni,hgd⟩
  dsimp only at hi hO h3 hni hgd
  have hbW:=b11.step hW
  refine rnT ?_
  refine CW.pk [0,1,7,11,12,24,25,26] rfl ?_
  refine CW.condP rfl (fun hlt=> ?_) (fun hge=> ?_)
  · obtain ⟨x,hx,hxm⟩:=getx (l:=l) (k:=i) (by omega)
    obtain ⟨s,hs,hsm⟩:=getx (l:=nm) (k:=i) (by omega)
    have hB11W:=hB11.next hW
    refine rnT ?_
    refine TW.loadA _ rfl rfl Tryz.underlying251 sz251 rfl ct (fun _=>(fun _ _ hv=>hB11W.fld hv)) rfl ?_
    refine rnT ?_
    refine CW.lp [0,1,7,11,12,13,24,25,28] (fun k:Nat=> [(29,none,.int .i64 (k:Int))])
      (fun k W'=>k≤3∧Below W.heap.size W W'∧(0<k→res1 s=0)∧(1<k→res2 nm i s=0)∧(2<k→res3 G x=0)) (fun k=>3-k) 0 ⟨Nat.zero_le _,Below.refl _ _,fun h=>by omega,fun h=>by omega,fun h=>by omega⟩ ?_
    rintro k W' ⟨hk,hW',hr1,hr2,hr3⟩
    have hbW':=hbW.step hW'
    have hnW: ∀j y,nm[j]?=some y→NameF W' kn capn j y:=fun j y hj=>(hn j y hj).below hbW'
    have hB7':=hB7.next (hW.step hW')
    have hB8':=hB8.next (hW.step hW')
    have hB9':=hB9.next (hW.step hW')
    have hlW:=hl.below hbW'
    refine rnT ?_
    refine CW.condP rfl (fun hlt3=> ?_) (fun hge3=> ?_)
    · have hk3:k<3:=by omega
      refine CW.skip (KW.then_ (CW.seq (CW.block (CW.seq (CW.region ?_)))))
      obtain ⟨kf,cp,r,hkf,hen',hcl,z1,z2,z3⟩: ∃(kf:Nat) (cp:List Value) (r:Int),[Value.func (.func 199) #[] #[.pointer (some ⟨g8,0,none⟩)],.func (.func 200) #[] #[.pointer (some ⟨g8,0,none⟩)],.func (.func 201) #[] #[.pointer (some ⟨g9,0,none⟩),.pointer (some ⟨g7,0,none⟩)]][((k:Nat):Int).toNat]?=some (.func (.func kf) #[] cp.toArray)∧enters Tryz.prog kf=true∧Gives Tryz.prog kf (.int .i64 (i:Int)::cp).toArray W' (fun u w'=>Below W'.heap.size W' w'∧u= .int .i64 r)∧(k=0→r=res1 s)∧(k=1→r=res2 nm i s)∧(k=2→r=res3 G x):=by
        obtain rfl|rfl|rfl:k=0∨k=1∨k=2:=by omega
        · exact ⟨_,[_],_,rfl,en199,ru1Off_c (ht.below hbW') hB8' hen (hnW i s hs),fun _=>rfl,fun h=>by omega,fun h=>by omega⟩
        · exact ⟨_,[_],_,rfl,en200,ru2Off_c hB8' hen hnW hs (by omega),fun h=>by omega,fun _=>rfl,fun h=>by omega⟩
        · exact ⟨_,[_,_],_,rfl,en201,ru3Off_c hB9' hB7' heg hlW hx (fun cs X hX hr=>hg i x hx cs X (hbW'.step hX) hr),fun h=>by omega,fun h=>by omega,fun _=>rfl⟩
      refine TW.indexV rfl rfl Tryz.underlying251 one250 sz250 rfl ct rfl ct (fun _=>by (try dsimp only); omega) (fun _=>hkf) ?_
      refine rnT ?_
      refine TW.call0 rfl rfl hen' rfl (Args.cons rfl ct Args.nil) (hcl) ?_
      rintro y1 w1 ⟨c1,rfl⟩
      refine rnT ?_
      refine CW.cond rfl (fun hne=> ?_) (fun heq=> ?_)
      · have hbad:r≠0:=by simpa using hne
        refine rnT ?_
        refine TW.build [0,1,2] _ [.int .i64 kd,.int .i64 (i:Int),.int .i64 r] rfl rfl rfl (Args.cons rfl ct (Args.cons rfl ct (Args.cons rfl ct Args.nil))) (by kernel_rfl) ?_
        refine TW.buildSlice 167 _ rfl rfl rfl eo85 (Args.cons rfl ct Args.nil) rfl rfl rfl rfl rfl ?_
        rintro g2 w2 f2
        have hW1:=(hW.step hW').step c1
        refine TW.append [.int .i64 kd,.int .i64 (i:Int),.int .i64 r] rfl rfl go85 rfl (((hO.below hW').below c1).below f2.below) rfl rfl (fun j u hj=>⟨_,rfl,f2.blk.fld hj⟩) (fun u hu=>by simp at hu; rcases hu with rfl|rfl|rfl<;>rfl) (by omega) (by omega) ?_
        rintro fv' w3 hO3 hg3 hn3
        refine rnT ?_
        have hW2:=hW1.step f2.below
        refine KW.rd (i+1,fv',n+1) ⟨by show i+1≤_; omega,hW2.grown hg3 hW2.size h3,FRow.app (w:=w2) h3 h2 (fun u hu=>by simp at hu; rcases hu with rfl|rfl|rfl<;>rfl) hO3 hn3 hW2.size,by show n+1≤i+1; omega,⟨fun h=>absurd h (Nat.succ_ne_zero n),fun h=> ?_⟩⟩
        obtain ⟨q1,q2,q3⟩:=(goodAt_iff hx hs).1 (h i (by show i<i+1; omega))
        exact absurd (show r = 0 by obtain h | h | h : k = 0 ∨ k = 1 ∨ k = 2 := by omega
                                    · rw [z1 h,q1]
                                    · rw [z2 h,q2]
                                    · rw [z3 h,q3]) hbad
      · have hgood:r=0:=by simpa using heq
        refine rnT ?_
        refine KW.rd (k+1) ⟨by omega,hW'.step c1,fun _=> ?_,fun _=> ?_,fun _=> ?_⟩
        · by_cases h:k=0
          · rw [←z1 h,hgood]
          · exact hr1 (by omega)
        · by_cases h:k=1
          · rw [←z2 h,hgood]
          · exact hr2 (by omega)
        · by_cases h:k=2
          · rw [←z3 h,hgood]
          · exact hr3 (by omega)
    · have hk3:k=3:=by omega
      subst hk3
      refine rnT ?_
      refine KW.rd (i+1,fv,n) ⟨by show i+1≤_; omega,hW.step hW',⟨zs,hO.below hW',h2,h3⟩,by show n≤i+1; omega,?_⟩
      show n=0↔ ∀j,j<i+1→GoodAt nm l G j
      rw [hgd]
      refine ⟨fun h j hj=> ?_,fun h j hj=>h j (by omega)⟩
      rcases Nat.lt_or_ge j i with h'|h'
      · exact h j h'
      · have:j=i:=by omega
        subst this
        exact (goodAt_iff hx hs).2 ⟨hr1 (by omega),hr2 (by omega),hr3 (by omega)⟩
  have hie:i=min l.length lim:=by omega
  have h3: ∀g,fv.ownBlock=some g→w.heap.size≤g:=fun g hg=>Nat.le_trans b11.size (h3 g hg)
  refine rnT ?_
  refine TW.ld rfl ((hB7.next hW).cell 0) ?_
  refine rnT ?_
  refine CW.pk [0,1,7,11,12,24,25,49] rfl ?_
  refine CW.condP rfl (fun hbig=> ?_) (fun hsmall=> ?_)
  · refine rnT ?_
    refine TW.build [0,1,2] _ [.int .i64 kd,.int .i64 (lim:Int),.int .i64 2] rfl rfl rfl (Args.cons rfl ct (Args.cons rfl ct (Args.cons rfl ct Args.nil))) (by kernel_rfl) ?_
    refine TW.buildSlice 167 _ rfl rfl rfl eo85 (Args.cons rfl ct Args.nil) rfl rfl rfl rfl rfl ?_
    rintro g2 w2 f2
    refine TW.append [.int .i64 kd,.int .i64 (lim:Int),.int .i64 2] rfl rfl go85 rfl (hO.below f2.below) rfl rfl (fun j u hj=>⟨_,rfl,f2.blk.fld hj⟩) (fun u hu=>by simp at hu; rcases hu with rfl|rfl|rfl<;>rfl) (by omega) (by omega) ?_
    rintro fv' w3 hO3 hg3 hn3
    refine rnT ?_
    have hb2:=hbW.step f2.below
    refine rt1 rfl ⟨hb2.grown hg3 hb2.size (fun q hq=>h3 q hq),n+1,FRow.app (w:=w2) h3 h2 (fun u hu=>by simp at hu; rcases hu with rfl|rfl|rfl<;>rfl) hO3 hn3 hb2.size,by omega,⟨fun h=>by omega,fun h=> ?_⟩⟩
    have:=h.few
    omega
  · refine rnT ?_
    refine rt1 rfl ⟨hbW,n,⟨zs,hO,h2,h3⟩,by omega,?_⟩
    rw [kind_iff hnl,hgd,hie]
    exact ⟨fun h=>⟨by omega,h⟩,fun h=>h.2⟩
theorem ru1Lin_c (ht:Tabs w) (hB:Blk w g8 188 [.func (.func kn) #[] capn.toArray]) (hen:enters Tryz.prog kn=true) (hn:NameF w kn capn i s) :
  Gives Tryz.prog 206 #[.int .i64 (i:Int),.pointer (some ⟨g8,0,none⟩)] w fun u w'=>Below w.heap.size w w'∧u= .int .i64 (res1 s):=by
 refine gv (f:=206) ?_
 refine rnT ?_
 refine TW.ld rfl (hB.cell 0) ?_
 refine rnT ?_
 refine TW.call0 rfl rfl hen rfl (Args.cons rfl ct Args.nil) (hn w (Below.refl _ _)) ?_
 rintro y1 w1 ⟨c1,rfl⟩
 refine TW.cl rfl (isName_c (ht.below c1)) ?_
 rintro y2 w2 ⟨c2,rfl⟩
 refine rnT ?_
 refine CW.cond rfl (fun h1=> ?_) (fun h2=> ?_)
 ·refine rnT ?_
  refine rt1 rfl ⟨c1.step c2,?_⟩
  unfold res1
  cases hq:dec (NameOK keys11 s) with
  | true=>rw [hq] at h1; simp at h1
  | false=>rfl
 ·refine rnT ?_
  refine rt1 rfl ⟨c1.step c2,?_⟩
  unfold res1
  cases hq:dec (NameOK keys11 s) with
  | true=>rfl
  | false=>rw [hq] at h2; simp at h2
theorem ru2Lin_c (hB:Blk w g8 188 [.func (.func kn) #[] capn.toArray]) (hen:enters Tryz.prog kn=true) (hn: ∀j x,nm[j]?=some x→NameF w kn capn j x) (hs:nm[i]?=some s) (hi:i≤1000000) :
  Gives Tryz.prog 207 #[.int .i64 (i:Int),.pointer (some ⟨g8,0,none⟩)] w fun u w'=>Below w.heap.size w w'∧u= .int .i64 (res2 nm i s):=by
 refine gv (f:=207) ?_
 refine rnT ?_
 refine CW.lp [0,1,5] (fun k:Nat=> [(6,none,.int .i64 (k:Int))])
  (fun k W=>k≤i∧Below w.heap.size w W∧s ∉ nm.take k) (fun k=>i-k) 0 ⟨Nat.zero_le _,Below.refl _ _,by simp⟩ ?_
 rintro k W ⟨hk,hW,hno⟩
 have hil:=(List.getElem?_eq_some_iff.1 hs).1
 refine rnT ?_
 refine CW.condP rfl (fun hlt=> ?_) (fun hge=> ?_)
 ·obtain ⟨x,hx,hxm⟩:=getx (l:=nm) (k:=k) (by omega)
  have hBW:=hB.next hW
  refine rnT ?_
  refine CW.draw mixed (by kernel_rfl) ?_
  refine DW.ld rfl (hBW.cell 0) ?_
  refine rnD ?_
  refine DW.call (.ex (.string x)) trivial rfl rfl hen rfl ct (DArgs.cons rfl ct DArgs.nil) (fun _ w' hb'=>hn k x hx w' (hW.step hb')) ?_
  refine DW.ld rfl (hBW.cell 0) ?_
  refine rnD ?_
  refine DW.call (.ex (.string s)) trivial rfl rfl hen rfl ct (DArgs.cons rfl ct DArgs.nil) (fun _ w' hb'=>hn i s hs w' (hW.step hb')) ?_
  refine rnD ?_
  rw [beqL]
  refine DW.fi [0,1,4,5,6,15] rfl fun w3 b3=> ?_
  refine KW.then_ ?_
  refine CW.cond rfl (fun heq=> ?_) (fun hne=> ?_)
  ·refine rnT ?_
   refine rt1 rfl ⟨hW.step b3,?_⟩
   have hxs:x=s:=of_decide_eq_true heq
   subst hxs
   unfold res2
   rw [dec_pos (List.mem_of_getElem? (i:=k) (by rw [List.getElem?_take_of_lt (by omega)]; exact hx))]
   rfl
  ·refine rnT ?_
   refine KW.rd (k+1) ⟨by omega,hW.step b3,fun h=> ?_⟩
   rw [List.take_add_one,hx] at h
   rcases List.mem_append.1 h with h|h
   ·exact hno h
   ·simp at h
    exact of_decide_eq_false hne h.symm
 ·refine rnT ?_
  refine rt1 rfl ⟨hW,?_⟩
  have:k=i:=by omega
  subst this
  unfold res2
  rw [dec_neg hno]
  rfl
theorem ru3Lin_c {l:List Li} {x:Li} {G:Li→Prop} (hB9:Blk w g9 197 [.func (.func kg) #[] capg.toArray]) (hB7:Blk w g7 26 [v]) (hen:enters Tryz.prog kg=true) (hl:SL liT F w v l) (hx:l[i]?=some x)
 (hg: ∀cs W,Below w.heap.size w W→liT.rep F W cs x→Gives Tryz.prog kg (.agg cs.toArray::capg).toArray W fun u W'=>Below W.heap.size W W'∧u= .bool (dec (G x))) :
  Gives Tryz.prog 208 #[.int .i64 (i:Int),.pointer (some ⟨g9,0,none⟩),.pointer (some ⟨g7,0,none⟩)] w fun u w'=>Below w.heap.size w w'∧u= .int .i64 (res3 G x):=by
 obtain ⟨A,cap,rfl,_⟩:=hl.form
 have hil:=(List.getElem?_eq_some_iff.1 hx).1
 have hmax:=hl.len.2.2
 obtain ⟨ad,rfl⟩:=hl.addr (by omega)
 obtain ⟨ad',cs,e1,hF,hrep,hc⟩:=hl.at hx
 cases e1
 have hrep0:=hrep
 obtain ⟨rfl,zz⟩:=hrep
 refine gv (f:=208) ?_
 refine rnT ?_
 refine CW.draw mixed (by kernel_rfl) ?_
 refine DW.ld rfl (hB9.cell 0) ?_
 refine DW.ld rfl (hB7.cell 0) ?_
 refine rnD ?_
 refine DW.ldS rfl (hc) ?_
 refine DW.call (.ex (.bool (dec (G x)))) trivial rfl rfl hen rfl ct (DArgs.cons rfl ct DArgs.nil) (fun _ w' hb'=>hg _ w' hb' (liT.mono _ _ _ _ _ (Kept.of_below hb') hrep0)) ?_
 refine rnD ?_
 refine DW.fi [0,1,2,4,11] rfl fun w3 b3=> ?_
 refine KW.then_ ?_
 refine CW.cond rfl (fun h1=> ?_) (fun h2=> ?_)
 ·refine rnT ?_
  refine rt1 rfl ⟨b3,?_⟩
  unfold res3
  cases hq:dec (G x) with
  | true=>rw [hq] at h1; simp at h1
  | false=>rfl
 ·refine rnT ?_
  refine rt1 rfl ⟨b3,?_⟩
  unfold res3
  cases hq:dec (G x) with
  | true=>rfl
  | false=>rw [hq] at h2; simp at h2
theorem checkLin_c {l:List Li} {G:Li→Prop} (ht:Tabs w) (hl:SL liT F w v l) (hen:enters Tryz.prog kn=true) (heg:enters Tryz.prog kg=true) (hlim:lim≤1000)
 (hnl:nm.length=l.length) (hn: ∀j x,nm[j]?=some x→NameF w kn capn j x) (hg: ∀(i:Nat) (x:Li),l[i]?=some x→ ∀cs W,Below w.heap.size w W→liT.rep F W cs x→Gives Tryz.prog kg (.agg cs.toArray::capg).toArray W fun u W'=>Below W.heap.size W W'∧u= .bool (dec (G x))) :
    Gives Tryz.prog 128 #[.int .i64 kd,.int .i64 (lim:Int),v,.func (.func kn) #[] capn.toArray,.func (.func kg) #[] capg.toArray] w fun u w'=>Below w.heap.size w w'∧ ∃n,FRow w' w.heap.size u n∧n≤lim+1∧(n=0↔KindOK keys11 lim nm l G):=by
  obtain ⟨A,cap,rfl,_⟩:=hl.form
  have hmax:=hl.len.2.2
  refine gv (f:=128) ?_
  refine rnT ?_
  refine TW.box rfl rfl rfl rfl ?_
  rintro g7 w7 f7
  refine TW.box rfl rfl rfl rfl ?_
  rintro g8 w8 f8
  refine TW.box rfl rfl rfl rfl ?_
  rintro g9 w9 f9
  refine rnT ?_
  refine TW.makeFunc rfl rfl (Args.cons rfl ct Args.nil) ?_
  refine TW.makeFunc rfl rfl (Args.cons rfl ct Args.nil) ?_
  refine TW.makeFunc rfl rfl (Args.cons rfl ct (Args.cons rfl ct Args.nil)) ?_
  have hB7:=(f7.blk.next f8.below).next f9.below
  have hB8:=f8.blk.next f9.below
  have hB9:=f9.blk
  have b9:=(f7.below.step f8.below).step f9.below
  refine TW.build [0,1,2] _ [.func (.func 206) #[] #[.pointer (some ⟨g8,0,none⟩)],.func (.func 207) #[] #[.pointer (some ⟨g8,0,none⟩)],.func (.func 208) #[] #[.pointer (some ⟨g9,0,none⟩),.pointer (some ⟨g7,0,none⟩)]] rfl rfl rfl (Args.cons rfl ct (Args.cons rfl ct (Args.cons rfl ct Args.nil))) (by kernel_rfl) ?_
  refine TW.newVar rfl zc251 rfl sz251 rfl rfl ?_
  rintro g11 w11 f11
  refine rnT ?_
  have hB7:=(hB7.next f11.below)
  have hB8:=(hB8.next f11.below)
  have hB9:=(hB9.next f11.below)
  have hB11:=f11.blk
  have b11:=b9.step f11.below
  refine TW.ld rfl (hB7.cell 0) ?_
  refine rnT ?_
  refine TW.v V.minI rfl ⟨ct,ct,trivial⟩ (fun _=>trivial) ?_
  refine rnT ?_
  refine CW.lp [0,1,7,11,24] (fun z:Nat×Value×Nat=> [(12,none,z.2.1),(25,none,.int .i64 (z.1:Int))])
    (fun z W=>z.1≤min l.length lim∧Below w11.heap.size w11 W∧FRow W w11.heap.size z.2.1 z.2.2∧z.2.2≤z.1∧(z.2.2=0↔ ∀j,j<z.1→GoodAt nm l G j)) (fun z=>min l.length lim-z.1) (0,.slice none 0 0,0) ⟨Nat.zero_le _,Below.refl _ _,FRow.nil _ _,Nat.le_refl _,⟨fun _ j hj=>by omega,fun _=>rfl⟩⟩ ?_
  rintro ⟨i,fv,n⟩ W ⟨hi,hW,⟨zs,hO,h2,h3⟩,hni,hgd⟩
  dsimp only at hi hO h3 hni hgd
  have hbW:=b11.step hW
  refine rnT ?_
  refine CW.pk [0,1,7,11,12,24,25,26] rfl ?_
  refine CW.condP rfl (fun hlt=> ?_) (fun hge=> ?_)
  · obtain ⟨x,hx,hxm⟩:=getx (l:=l) (k:=i) (by omega)
    obtain ⟨s,hs,hsm⟩:=getx (l:=nm) (k:=i) (by omega)
    have hB11W:=hB11.next hW
    refine rnT ?_
    refine TW.loadA _ rfl rfl Tryz.underlying251 sz251 rfl ct (fun _=>(fun _ _ hv=>hB11W.fld hv)) rfl ?_
    refine rnT ?_
    refine CW.lp [0,1,7,11,12,13,24,25,28] (fun k:Nat=> [(29,none,.int .i64 (k:Int))])
      (fun k W'=>k≤3∧Below W.heap.size W W'∧(0<k→res1 s=0)∧(1<k→res2 nm i s=0)∧(2<k→res3 G x=0)) (fun k=>3-k) 0 ⟨Nat.zero_le _,Below.refl _ _,fun h=>by omega,fun h=>by omega,fun h=>by omega⟩ ?_
    rintro k W' ⟨hk,hW',hr1,hr2,hr3⟩
    have hbW':=hbW.step hW'
    have hnW: ∀j y,nm[j]?=some y→NameF W' kn capn j y:=fun j y hj=>(hn j y hj).below hbW'
    have hB7':=hB7.next (hW.step hW')
    have hB8':=hB8.next (hW.step hW')
    have hB9':=hB9.next (hW.step hW')
    have hlW:=hl.below hbW'
    refine rnT ?_
    refine CW.condP rfl (fun hlt3=> ?_) (fun hge3=> ?_)
    · have hk3:k<3:=by omega
      refine CW.skip (KW.then_ (CW.seq (CW.block (CW.seq (CW.region ?_)))))
      obtain ⟨kf,cp,r,hkf,hen',hcl,z1,z2,z3⟩: ∃(kf:Nat) (cp:List Value) (r:Int),[Value.func (.func 206) #[] #[.pointer (some ⟨g8,0,none⟩)],.func (.func 207) #[] #[.pointer (some ⟨g8,0,none⟩)],.func (.func 208) #[] #[.pointer (some ⟨g9,0,none⟩),.pointer (some ⟨g7,0,none⟩)]][((k:Nat):Int).toNat]?=some (.func (.func kf) #[] cp.toArray)∧enters Tryz.prog kf=true∧Gives Tryz.prog kf (.int .i64 (i:Int)::cp).toArray W' (fun u w'=>Below W'.heap.size W' w'∧u= .int .i64 r)∧(k=0→r=res1 s)∧(k=1→r=res2 nm i s)∧(k=2→r=res3 G x):=by
        obtain rfl|rfl|rfl:k=0∨k=1∨k=2:=by omega
        · exact ⟨_,[_],_,rfl,en206,ru1Lin_c (ht.below hbW') hB8' hen (hnW i s hs),fun _=>rfl,fun h=>by omega,fun h=>by omega⟩
        · exact ⟨_,[_],_,rfl,en207,ru2Lin_c hB8' hen hnW hs (by omega),fun h=>by omega,fun _=>rfl,fun h=>by omega⟩
        · exact ⟨_,[_,_],_,rfl,en208,ru3Lin_c hB9' hB7' heg hlW hx (fun cs X hX hr=>hg i x hx cs X (hbW'.step hX) hr),fun h=>by omega,fun h=>by omega,fun _=>rfl⟩
      refine TW.indexV rfl rfl Tryz.underlying251 one250 sz250 rfl ct rfl ct (fun _=>by (try dsimp only); omega) (fun _=>hkf) ?_
      refine rnT ?_
      refine TW.call0 rfl rfl hen' rfl (Args.cons rfl ct Args.nil) (hcl) ?_
      rintro y1 w1 ⟨c1,rfl⟩
      refine rnT ?_
      refine CW.cond rfl (fun hne=> ?_) (fun heq=> ?_)
      · have hbad:r≠0:=by simpa using hne
        refine rnT ?_
        refine TW.build [0,1,2] _ [.int .i64 kd,.int .i64 (i:Int),.int .i64 r] rfl rfl rfl (Args.cons rfl ct (Args.cons rfl ct (Args.cons rfl ct Args.nil))) (by kernel_rfl) ?_
        refine TW.buildSlice 167 _ rfl rfl rfl eo85 (Args.cons rfl ct Args.nil) rfl rfl rfl rfl rfl ?_
        rintro g2 w2 f2
        have hW1:=(hW.step hW').step c1
        refine TW.append [.int .i64 kd,.int .i64 (i:Int),.int .i64 r] rfl rfl go85 rfl (((hO.below hW').below c1).below f2.below) rfl rfl (fun j u hj=>⟨_,rfl,f2.blk.fld hj⟩) (fun u hu=>by simp at hu; rcases hu with rfl|rfl|rfl<;>rfl) (by omega) (by omega) ?_
        rintro fv' w3 hO3 hg3 hn3
        refine rnT ?_
        have hW2:=hW1.step f2.below
        refine KW.rd (i+1,fv',n+1) ⟨by show i+1≤_; omega,hW2.grown hg3 hW2.size h3,FRow.app (w:=w2) h3 h2 (fun u hu=>by simp at hu; rcases hu with rfl|rfl|rfl<;>rfl) hO3 hn3 hW2.size,by show n+1≤i+1; omega,⟨fun h=>absurd h (Nat.succ_ne_zero n),fun h=> ?_⟩⟩
        obtain ⟨q1,q2,q3⟩:=(goodAt_iff hx hs).1 (h i (by show i<i+1; omega))
        exact absurd (show r = 0 by obtain h | h | h : k = 0 ∨ k = 1 ∨ k = 2 := by omega
                                    · rw [z1 h,q1]
                                    · rw [z2 h,q2]
                                    · rw [z3 h,q3]) hbad
      · have hgood:r=0:=by simpa using heq
        refine rnT ?_
        refine KW.rd (k+1) ⟨by omega,hW'.step c1,fun _=> ?_,fun _=> ?_,fun _=> ?_⟩
        · by_cases h:k=0
          · rw [←z1 h,hgood]
          · exact hr1 (by omega)
        · by_cases h:k=1
          · rw [←z2 h,hgood]
          · exact hr2 (by omega)
        · by_cases h:k=2
          · rw [←z3 h,hgood]
          · exact hr3 (by omega)
    · have hk3:k=3:=by omega
      subst hk3
      refine rnT ?_
      refine KW.rd (i+1,fv,n) ⟨by show i+1≤_; omega,hW.step hW',⟨zs,hO.below hW',h2,h3⟩,by show n≤i+1; omega,?_⟩
      show n=0↔ ∀j,j<i+1→GoodAt nm l G j
      rw [hgd]
      refine ⟨fun h j hj=> ?_,fun h j hj=>h j (by omega)⟩
      rcases Nat.lt_or_ge j i with h'|h'
      · exact h j h'
      · have:j=i:=by omega
        subst this
        exact (goodAt_iff hx hs).2 ⟨hr1 (by omega),hr2 (by omega),hr3 (by omega)⟩
  have hie:i=min l.length lim:=by omega
  have h3: ∀g,fv.ownBlock=some g→w.heap.size≤g:=fun g hg=>Nat.le_trans b11.size (h3 g hg)
  refine rnT ?_
  refine TW.ld rfl ((hB7.next hW).cell 0) ?_
  refine rnT ?_
  refine CW.pk [0,1,7,11,12,24,25,49] rfl ?_
  refine CW.condP rfl (fun hbig=> ?_) (fun hsmall=> ?_)
  · refine rnT ?_
    refine TW.build [0,1,2] _ [.int .i64 kd,.int .i64 (lim:Int),.int .i64 2] rfl rfl rfl (Args.cons rfl ct (Args.cons rfl ct (Args.cons rfl ct Args.nil))) (by kernel_rfl) ?_
    refine TW.buildSlice 167 _ rfl rfl rfl eo85 (Args.cons rfl ct Args.nil) rfl rfl rfl rfl rfl ?_
    rintro g2 w2 f2
    refine TW.append [.int .i64 kd,.int .i64 (lim:Int),.int .i64 2] rfl rfl go85 rfl (hO.below f2.below) rfl rfl (fun j u hj=>⟨_,rfl,f2.blk.fld hj⟩) (fun u hu=>by simp at hu; rcases hu with rfl|rfl|rfl<;>rfl) (by omega) (by omega) ?_
    rintro fv' w3 hO3 hg3 hn3
    refine rnT ?_
    have hb2:=hbW.step f2.below
    refine rt1 rfl ⟨hb2.grown hg3 hb2.size (fun q hq=>h3 q hq),n+1,FRow.app (w:=w2) h3 h2 (fun u hu=>by simp at hu; rcases hu with rfl|rfl|rfl<;>rfl) hO3 hn3 hb2.size,by omega,⟨fun h=>by omega,fun h=> ?_⟩⟩
    have:=h.few
    omega
  · refine rnT ?_
    refine rt1 rfl ⟨hbW,n,⟨zs,hO,h2,h3⟩,by omega,?_⟩
    rw [kind_iff hnl,hgd,hie]
    exact ⟨fun h=>⟨by omega,h⟩,fun h=>h.2⟩
theorem ru1Cls_c (ht:Tabs w) (hB:Blk w g8 188 [.func (.func kn) #[] capn.toArray]) (hen:enters Tryz.prog kn=true) (hn:NameF w kn capn i s) :
  Gives Tryz.prog 209 #[.int .i64 (i:Int),.pointer (some ⟨g8,0,none⟩)] w fun u w'=>Below w.heap.size w w'∧u= .int .i64 (res1 s):=by
 refine gv (f:=209) ?_
 refine rnT ?_
 refine TW.ld rfl (hB.cell 0) ?_
 refine rnT ?_
 refine TW.call0 rfl rfl hen rfl (Args.cons rfl ct Args.nil) (hn w (Below.refl _ _)) ?_
 rintro y1 w1 ⟨c1,rfl⟩
 refine TW.cl rfl (isName_c (ht.below c1)) ?_
 rintro y2 w2 ⟨c2,rfl⟩
 refine rnT ?_
 refine CW.cond rfl (fun h1=> ?_) (fun h2=> ?_)
 ·refine rnT ?_
  refine rt1 rfl ⟨c1.step c2,?_⟩
  unfold res1
  cases hq:dec (NameOK keys11 s) with
  | true=>rw [hq] at h1; simp at h1
  | false=>rfl
 ·refine rnT ?_
  refine rt1 rfl ⟨c1.step c2,?_⟩
  unfold res1
  cases hq:dec (NameOK keys11 s) with
  | true=>rfl
  | false=>rw [hq] at h2; simp at h2
theorem ru2Cls_c (hB:Blk w g8 188 [.func (.func kn) #[] capn.toArray]) (hen:enters Tryz.prog kn=true) (hn: ∀j x,nm[j]?=some x→NameF w kn capn j x) (hs:nm[i]?=some s) (hi:i≤1000000) :
  Gives Tryz.prog 210 #[.int .i64 (i:Int),.pointer (some ⟨g8,0,none⟩)] w fun u w'=>Below w.heap.size w w'∧u= .int .i64 (res2 nm i s):=by
 refine gv (f:=210) ?_
 refine rnT ?_
 refine CW.lp [0,1,5] (fun k:Nat=> [(6,none,.int .i64 (k:Int))])
  (fun k W=>k≤i∧Below w.heap.size w W∧s ∉ nm.take k) (fun k=>i-k) 0 ⟨Nat.zero_le _,Below.refl _ _,by simp⟩ ?_
 rintro k W ⟨hk,hW,hno⟩
 have hil:=(List.getElem?_eq_some_iff.1 hs).1
 refine rnT ?_
 refine CW.condP rfl (fun hlt=> ?_) (fun hge=> ?_)
 ·obtain ⟨x,hx,hxm⟩:=getx (l:=nm) (k:=k) (by omega)
  have hBW:=hB.next hW
  refine rnT ?_
  refine CW.draw mixed (by kernel_rfl) ?_
  refine DW.ld rfl (hBW.cell 0) ?_
  refine rnD ?_
  refine DW.call (.ex (.string x)) trivial rfl rfl hen rfl ct (DArgs.cons rfl ct DArgs.nil) (fun _ w' hb'=>hn k x hx w' (hW.step hb')) ?_
  refine DW.ld rfl (hBW.cell 0) ?_
  refine rnD ?_
  refine DW.call (.ex (.string s)) trivial rfl rfl hen rfl ct (DArgs.cons rfl ct DArgs.nil) (fun _ w' hb'=>hn i s hs w' (hW.step hb')) ?_
  refine rnD ?_
  rw [beqL]
  refine DW.fi [0,1,4,5,6,15] rfl fun w3 b3=> ?_
  refine KW.then_ ?_
  refine CW.cond rfl (fun heq=> ?_) (fun hne=> ?_)
  ·refine rnT ?_
   refine rt1 rfl ⟨hW.step b3,?_⟩
   have hxs:x=s:=of_decide_eq_true heq
   subst hxs
   unfold res2
   rw [dec_pos (List.mem_of_getElem? (i:=k) (by rw [List.getElem?_take_of_lt (by omega)]; exact hx))]
   rfl
  ·refine rnT ?_
   refine KW.rd (k+1) ⟨by omega,hW.step b3,fun h=> ?_⟩
   rw [List.take_add_one,hx] at h
   rcases List.mem_append.1 h with h|h
   ·exact hno h
   ·simp at h
    exact of_decide_eq_false hne h.symm
 ·refine rnT ?_
  refine rt1 rfl ⟨hW,?_⟩
  have:k=i:=by omega
  subst this
  unfold res2
  rw [dec_neg hno]
  rfl
theorem ru3Cls_c {l:List Cla} {x:Cla} {G:Cla→Prop} (hB9:Blk w g9 201 [.func (.func kg) #[] capg.toArray]) (hB7:Blk w g7 27 [v]) (hen:enters Tryz.prog kg=true) (hl:SL claT F w v l) (hx:l[i]?=some x)
 (hg: ∀cs W,Below w.heap.size w W→claT.rep F W cs x→Gives Tryz.prog kg (.agg cs.toArray::capg).toArray W fun u W'=>Below W.heap.size W W'∧u= .bool (dec (G x))) :
  Gives Tryz.prog 211 #[.int .i64 (i:Int),.pointer (some ⟨g9,0,none⟩),.pointer (some ⟨g7,0,none⟩)] w fun u w'=>Below w.heap.size w w'∧u= .int .i64 (res3 G x):=by
 obtain ⟨A,cap,rfl,_⟩:=hl.form
 have hil:=(List.getElem?_eq_some_iff.1 hx).1
 have hmax:=hl.len.2.2
 obtain ⟨ad,rfl⟩:=hl.addr (by omega)
 obtain ⟨ad',cs,e1,hF,hrep,hc⟩:=hl.at hx
 cases e1
 have hrep0:=hrep
 obtain ⟨rfl,zz⟩:=hrep
 refine gv (f:=211) ?_
 refine rnT ?_
 refine CW.draw mixed (by kernel_rfl) ?_
 refine DW.ld rfl (hB9.cell 0) ?_
 refine DW.ld rfl (hB7.cell 0) ?_
 refine rnD ?_
 refine DW.ldS rfl (hc) ?_
 refine DW.call (.ex (.bool (dec (G x)))) trivial rfl rfl hen rfl ct (DArgs.cons rfl ct DArgs.nil) (fun _ w' hb'=>hg _ w' hb' (claT.mono _ _ _ _ _ (Kept.of_below hb') hrep0)) ?_
 refine rnD ?_
 refine DW.fi [0,1,2,4,11] rfl fun w3 b3=> ?_
 refine KW.then_ ?_
 refine CW.cond rfl (fun h1=> ?_) (fun h2=> ?_)
 ·refine rnT ?_
  refine rt1 rfl ⟨b3,?_⟩
  unfold res3
  cases hq:dec (G x) with
  | true=>rw [hq] at h1; simp at h1
  | false=>rfl
 ·refine rnT ?_
  refine rt1 rfl ⟨b3,?_⟩
  unfold res3
  cases hq:dec (G x) with
  | true=>rfl
  | false=>rw [hq] at h2; simp at h2
theorem checkCls_c {l:List Cla} {G:Cla→Prop} (ht:Tabs w) (hl:SL claT F w v l) (hen:enters Tryz.prog kn=true) (heg:enters Tryz.prog kg=true) (hlim:lim≤1000)
 (hnl:nm.length=l.length) (hn: ∀j x,nm[j]?=some x→NameF w kn capn j x) (hg: ∀(i:Nat) (x:Cla),l[i]?=some x→ ∀cs W,Below w.heap.size w W→claT.rep F W cs x→Gives Tryz.prog kg (.agg cs.toArray::capg).toArray W fun u W'=>Below W.heap.size W W'∧u= .bool (dec (G x))) :
    Gives Tryz.prog 132 #[.int .i64 kd,.int .i64 (lim:Int),v,.func (.func kn) #[] capn.toArray,.func (.func kg) #[] capg.toArray] w fun u w'=>Below w.heap.size w w'∧ ∃n,FRow w' w.heap.size u n∧n≤lim+1∧(n=0↔KindOK keys11 lim nm l G):=by
  obtain ⟨A,cap,rfl,_⟩:=hl.form
  have hmax:=hl.len.2.2
  refine gv (f:=132) ?_
  refine rnT ?_
  refine TW.box rfl rfl rfl rfl ?_
  rintro g7 w7 f7
  refine TW.box rfl rfl rfl rfl ?_
  rintro g8 w8 f8
  refine TW.box rfl rfl rfl rfl ?_
  rintro g9 w9 f9
  refine rnT ?_
  refine TW.makeFunc rfl rfl (Args.cons rfl ct Args.nil) ?_
  refine TW.makeFunc rfl rfl (Args.cons rfl ct Args.nil) ?_
  refine TW.makeFunc rfl rfl (Args.cons rfl ct (Args.cons rfl ct Args.nil)) ?_
  have hB7:=(f7.blk.next f8.below).next f9.below
  have hB8:=f8.blk.next f9.below
  have hB9:=f9.blk
  have b9:=(f7.below.step f8.below).step f9.below
  refine TW.build [0,1,2] _ [.func (.func 209) #[] #[.pointer (some ⟨g8,0,none⟩)],.func (.func 210) #[] #[.pointer (some ⟨g8,0,none⟩)],.func (.func 211) #[] #[.pointer (some ⟨g9,0,none⟩),.pointer (some ⟨g7,0,none⟩)]] rfl rfl rfl (Args.cons rfl ct (Args.cons rfl ct (Args.cons rfl ct Args.nil))) (by kernel_rfl) ?_
  refine TW.newVar rfl zc251 rfl sz251 rfl rfl ?_
  rintro g11 w11 f11
  refine rnT ?_
  have hB7:=(hB7.next f11.below)
  have hB8:=(hB8.next f11.below)
  have hB9:=(hB9.next f11.below)
  have hB11:=f11.blk
  have b11:=b9.step f11.below
  refine TW.ld rfl (hB7.cell 0) ?_
  refine rnT ?_
  refine TW.v V.minI rfl ⟨ct,ct,trivial⟩ (fun _=>trivial) ?_
  refine rnT ?_
  refine CW.lp [0,1,7,11,24] (fun z:Nat×Value×Nat=> [(12,none,z.2.1),(25,none,.int .i64 (z.1:Int))])
    (fun z W=>z.1≤min l.length lim∧Below w11.heap.size w11 W∧FRow W w11.heap.size z.2.1 z.2.2∧z.2.2≤z.1∧(z.2.2=0↔ ∀j,j<z.1→GoodAt nm l G j)) (fun z=>min l.length lim-z.1) (0,.slice none 0 0,0) ⟨Nat.zero_le _,Below.refl _ _,FRow.nil _ _,Nat.le_refl _,⟨fun _ j hj=>by omega,fun _=>rfl⟩⟩ ?_
  rintro ⟨i,fv,n⟩ W ⟨hi,hW,⟨zs,hO,h2,h3⟩,hni,hgd⟩
  dsimp only at hi hO h3 hni hgd
  have hbW:=b11.step hW
  refine rnT ?_
  refine CW.pk [0,1,7,11,12,24,25,26] rfl ?_
  refine CW.condP rfl (fun hlt=> ?_) (fun hge=> ?_)
  · obtain ⟨x,hx,hxm⟩:=getx (l:=l) (k:=i) (by omega)
    obtain ⟨s,hs,hsm⟩:=getx (l:=nm) (k:=i) (by omega)
    have hB11W:=hB11.next hW
    refine rnT ?_
    refine TW.loadA _ rfl rfl Tryz.underlying251 sz251 rfl ct (fun _=>(fun _ _ hv=>hB11W.fld hv)) rfl ?_
    refine rnT ?_
    refine CW.lp [0,1,7,11,12,13,24,25,28] (fun k:Nat=> [(29,none,.int .i64 (k:Int))])
      (fun k W'=>k≤3∧Below W.heap.size W W'∧(0<k→res1 s=0)∧(1<k→res2 nm i s=0)∧(2<k→res3 G x=0)) (fun k=>3-k) 0 ⟨Nat.zero_le _,Below.refl _ _,fun h=>by omega,fun h=>by omega,fun h=>by omega⟩ ?_
    rintro k W' ⟨hk,hW',hr1,hr2,hr3⟩
    have hbW':=hbW.step hW'
    have hnW: ∀j y,nm[j]?=some y→NameF W' kn capn j y:=fun j y hj=>(hn j y hj).below hbW'
    have hB7':=hB7.next (hW.step hW')
    have hB8':=hB8.next (hW.step hW')
    have hB9':=hB9.next (hW.step hW')
    have hlW:=hl.below hbW'
    refine rnT ?_
    refine CW.condP rfl (fun hlt3=> ?_) (fun hge3=> ?_)
    · have hk3:k<3:=by omega
      refine CW.skip (KW.then_ (CW.seq (CW.block (CW.seq (CW.region ?_)))))
      obtain ⟨kf,cp,r,hkf,hen',hcl,z1,z2,z3⟩: ∃(kf:Nat) (cp:List Value) (r:Int),[Value.func (.func 209) #[] #[.pointer (some ⟨g8,0,none⟩)],.func (.func 210) #[] #[.pointer (some ⟨g8,0,none⟩)],.func (.func 211) #[] #[.pointer (some ⟨g9,0,none⟩),.pointer (some ⟨g7,0,none⟩)]][((k:Nat):Int).toNat]?=some (.func (.func kf) #[] cp.toArray)∧enters Tryz.prog kf=true∧Gives Tryz.prog kf (.int .i64 (i:Int)::cp).toArray W' (fun u w'=>Below W'.heap.size W' w'∧u= .int .i64 r)∧(k=0→r=res1 s)∧(k=1→r=res2 nm i s)∧(k=2→r=res3 G x):=by
        obtain rfl|rfl|rfl:k=0∨k=1∨k=2:=by omega
        · exact ⟨_,[_],_,rfl,en209,ru1Cls_c (ht.below hbW') hB8' hen (hnW i s hs),fun _=>rfl,fun h=>by omega,fun h=>by omega⟩
        · exact ⟨_,[_],_,rfl,en210,ru2Cls_c hB8' hen hnW hs (by omega),fun h=>by omega,fun _=>rfl,fun h=>by omega⟩
        · exact ⟨_,[_,_],_,rfl,en211,ru3Cls_c hB9' hB7' heg hlW hx (fun cs X hX hr=>hg i x hx cs X (hbW'.step hX) hr),fun h=>by omega,fun h=>by omega,fun _=>rfl⟩
      refine TW.indexV rfl rfl Tryz.underlying251 one250 sz250 rfl ct rfl ct (fun _=>by (try dsimp only); omega) (fun _=>hkf) ?_
      refine rnT ?_
      refine TW.call0 rfl rfl hen' rfl (Args.cons rfl ct Args.nil) (hcl) ?_
      rintro y1 w1 ⟨c1,rfl⟩
      refine rnT ?_
      refine CW.cond rfl (fun hne=> ?_) (fun heq=> ?_)
      · have hbad:r≠0:=by simpa using hne
        refine rnT ?_
        refine TW.build [0,1,2] _ [.int .i64 kd,.int .i64 (i:Int),.int .i64 r] rfl rfl rfl (Args.cons rfl ct (Args.cons rfl ct (Args.cons rfl ct Args.nil))) (by kernel_rfl) ?_
        refine TW.buildSlice 167 _ rfl rfl rfl eo85 (Args.cons rfl ct Args.nil) rfl rfl rfl rfl rfl ?_
        rintro g2 w2 f2
        have hW1:=(hW.step hW').step c1
        refine TW.append [.int .i64 kd,.int .i64 (i:Int),.int .i64 r] rfl rfl go85 rfl (((hO.below hW').below c1).below f2.below) rfl rfl (fun j u hj=>⟨_,rfl,f2.blk.fld hj⟩) (fun u hu=>by simp at hu; rcases hu with rfl|rfl|rfl<;>rfl) (by omega) (by omega) ?_
        rintro fv' w3 hO3 hg3 hn3
        refine rnT ?_
        have hW2:=hW1.step f2.below
        refine KW.rd (i+1,fv',n+1) ⟨by show i+1≤_; omega,hW2.grown hg3 hW2.size h3,FRow.app (w:=w2) h3 h2 (fun u hu=>by simp at hu; rcases hu with rfl|rfl|rfl<;>rfl) hO3 hn3 hW2.size,by show n+1≤i+1; omega,⟨fun h=>absurd h (Nat.succ_ne_zero n),fun h=> ?_⟩⟩
        obtain ⟨q1,q2,q3⟩:=(goodAt_iff hx hs).1 (h i (by show i<i+1; omega))
        exact absurd (show r = 0 by obtain h | h | h : k = 0 ∨ k = 1 ∨ k = 2 := by omega
                                    · rw [z1 h,q1]
                                    · rw [z2 h,q2]
                                    · rw [z3 h,q3]) hbad
      · have hgood:r=0:=by simpa using heq
        refine rnT ?_
        refine KW.rd (k+1) ⟨by omega,hW'.step c1,fun _=> ?_,fun _=> ?_,fun _=> ?_⟩
        · by_cases h:k=0
          · rw [←z1 h,hgood]
          · exact hr1 (by omega)
        · by_cases h:k=1
          · rw [←z2 h,hgood]
          · exact hr2 (by omega)
        · by_cases h:k=2
          · rw [←z3 h,hgood]
          · exact hr3 (by omega)
    · have hk3:k=3:=by omega
      subst hk3
      refine rnT ?_
      refine KW.rd (i+1,fv,n) ⟨by show i+1≤_; omega,hW.step hW',⟨zs,hO.below hW',h2,h3⟩,by show n≤i+1; omega,?_⟩
      show n=0↔ ∀j,j<i+1→GoodAt nm l G j
      rw [hgd]
      refine ⟨fun h j hj=> ?_,fun h j hj=>h j (by omega)⟩
      rcases Nat.lt_or_ge j i with h'|h'
      · exact h j h'
      · have:j=i:=by omega
        subst this
        exact (goodAt_iff hx hs).2 ⟨hr1 (by omega),hr2 (by omega),hr3 (by omega)⟩
  have hie:i=min l.length lim:=by omega
  have h3: ∀g,fv.ownBlock=some g→w.heap.size≤g:=fun g hg=>Nat.le_trans b11.size (h3 g hg)
  refine rnT ?_
  refine TW.ld rfl ((hB7.next hW).cell 0) ?_
  refine rnT ?_
  refine CW.pk [0,1,7,11,12,24,25,49] rfl ?_
  refine CW.condP rfl (fun hbig=> ?_) (fun hsmall=> ?_)
  · refine rnT ?_
    refine TW.build [0,1,2] _ [.int .i64 kd,.int .i64 (lim:Int),.int .i64 2] rfl rfl rfl (Args.cons rfl ct (Args.cons rfl ct (Args.cons rfl ct Args.nil))) (by kernel_rfl) ?_
    refine TW.buildSlice 167 _ rfl rfl rfl eo85 (Args.cons rfl ct Args.nil) rfl rfl rfl rfl rfl ?_
    rintro g2 w2 f2
    refine TW.append [.int .i64 kd,.int .i64 (lim:Int),.int .i64 2] rfl rfl go85 rfl (hO.below f2.below) rfl rfl (fun j u hj=>⟨_,rfl,f2.blk.fld hj⟩) (fun u hu=>by simp at hu; rcases hu with rfl|rfl|rfl<;>rfl) (by omega) (by omega) ?_
    rintro fv' w3 hO3 hg3 hn3
    refine rnT ?_
    have hb2:=hbW.step f2.below
    refine rt1 rfl ⟨hb2.grown hg3 hb2.size (fun q hq=>h3 q hq),n+1,FRow.app (w:=w2) h3 h2 (fun u hu=>by simp at hu; rcases hu with rfl|rfl|rfl<;>rfl) hO3 hn3 hb2.size,by omega,⟨fun h=>by omega,fun h=> ?_⟩⟩
    have:=h.few
    omega
  · refine rnT ?_
    refine rt1 rfl ⟨hbW,n,⟨zs,hO,h2,h3⟩,by omega,?_⟩
    rw [kind_iff hnl,hgd,hie]
    exact ⟨fun h=>⟨by omega,h⟩,fun h=>h.2⟩
def calNm (N:Net):List ByteArray:=(List.range N.cals.length).map fun i=>N.names.getD i ⟨#[]⟩
theorem calNm_eq (h:N.names.length=N.cals.length):calNm N=N.names:=by
 unfold calNm
 apply List.ext_getElem?
 intro i
 rw [List.getElem?_map]
 rcases Nat.lt_or_ge i N.cals.length with hi|hi
 ·rw [List.getElem?_range hi]
  simp [List.getD_eq_getElem?_getD,List.getElem?_eq_getElem (show i<N.names.length by omega)]
 ·rw [List.getElem?_eq_none (by simpa using hi),List.getElem?_eq_none (by omega)]
  rfl
theorem inc1_c {v:NV} (hB:Blk w g 29 v.cells) (hN:NetIn F w v N):Gives Tryz.prog 117 #[.int .i64 (i:Int),.pointer (some ⟨g,0,none⟩)] w fun u w'=>Below w.heap.size w w'∧u= .string (N.names.getD i ⟨#[]⟩):=by
 obtain ⟨vc,vn,vo,vf,vl,vk⟩:=v
 have hn:=hN.n
 obtain ⟨A,c,e,_⟩:=hn.form
 dsimp only at e
 subst e
 refine gv (f:=117) ?_
 refine rnT ?_
 refine TW.ld rfl (hB.fld rfl) ?_
 refine rnT ?_
 refine CW.condP rfl (fun hlt=> ?_) (fun hge=> ?_)
 ·obtain ⟨s,hs,_⟩:=getx (l:=N.names) (k:=i) (by omega)
  obtain ⟨ad,rfl⟩:=hn.addr (by omega)
  refine rnT ?_
  refine TW.ld rfl (hB.fld rfl) ?_
  refine rnT ?_
  refine TW.ld rfl (hn.getT hs) ?_
  refine rnT ?_
  refine rt1 rfl ⟨Below.refl _ _,by rw [List.getD_eq_getElem?_getD,hs]; rfl⟩
 ·refine rnT ?_
  refine rt1 rfl ⟨Below.refl _ _,by rw [List.getD_eq_getElem?_getD,List.getElem?_eq_none (by omega)]; rfl⟩
theorem inc2_c {v:NV} (hB:Blk w g 29 v.cells) (hN:NetIn F w v N) {s:_} (hs:N.ops[i]?=some s):Gives Tryz.prog 120 #[.int .i64 (i:Int),.pointer (some ⟨g,0,none⟩)] w fun u w'=>Below w.heap.size w w'∧u= .string s:=by
 obtain ⟨vc,vn,vo,vf,vl,vk⟩:=v
 have hn:=hN.o
 obtain ⟨A,c,e,_⟩:=hn.form
 dsimp only at e
 subst e
 have hil:=(List.getElem?_eq_some_iff.1 hs).1
 obtain ⟨ad,rfl⟩:=hn.addr (by omega)
 obtain ⟨ad',cs,e1,hF,hrep,hc⟩:=hn.at hs
 cases e1
 obtain ⟨rfl,_⟩:=hrep
 refine gv (f:=120) ?_
 refine rnT ?_
 refine TW.ld rfl (hB.fld rfl) ?_
 refine rnT ?_
 refine TW.ld rfl (hc 0 _ rfl) ?_
 refine rnT ?_
 refine rt1 rfl ⟨Below.refl _ _,rfl⟩
theorem inc4_c {v:NV} (hB:Blk w g 29 v.cells) (hN:NetIn F w v N) {s:_} (hs:N.offs[i]?=some s):Gives Tryz.prog 123 #[.int .i64 (i:Int),.pointer (some ⟨g,0,none⟩)] w fun u w'=>Below w.heap.size w w'∧u= .string s.name:=by
 obtain ⟨vc,vn,vo,vf,vl,vk⟩:=v
 have hn:=hN.f
 obtain ⟨A,c,e,_⟩:=hn.form
 dsimp only at e
 subst e
 have hil:=(List.getElem?_eq_some_iff.1 hs).1
 obtain ⟨ad,rfl⟩:=hn.addr (by omega)
 obtain ⟨ad',cs,e1,hF,hrep,hc⟩:=hn.at hs
 cases e1
 obtain ⟨zv,rfl,_⟩:=hrep
 refine gv (f:=123) ?_
 refine rnT ?_
 refine TW.ld rfl (hB.fld rfl) ?_
 refine rnT ?_
 refine TW.ld rfl (hc 0 _ rfl) ?_
 refine rnT ?_
 refine rt1 rfl ⟨Below.refl _ _,rfl⟩
theorem inc6_c {v:NV} (hB:Blk w g 29 v.cells) (hN:NetIn F w v N) {s:_} (hs:N.lines[i]?=some s):Gives Tryz.prog 127 #[.int .i64 (i:Int),.pointer (some ⟨g,0,none⟩)] w fun u w'=>Below w.heap.size w w'∧u= .string s.name:=by
 obtain ⟨vc,vn,vo,vf,vl,vk⟩:=v
 have hn:=hN.l
 obtain ⟨A,c,e,_⟩:=hn.form
 dsimp only at e
 subst e
 have hil:=(List.getElem?_eq_some_iff.1 hs).1
 obtain ⟨ad,rfl⟩:=hn.addr (by omega)
 obtain ⟨ad',cs,e1,hF,hrep,hc⟩:=hn.at hs
 cases e1
 obtain ⟨rfl,_⟩:=hrep
 refine gv (f:=127) ?_
 refine rnT ?_
 refine TW.ld rfl (hB.fld rfl) ?_
 refine rnT ?_
 refine TW.ld rfl (hc 0 _ rfl) ?_
 refine rnT ?_
 refine rt1 rfl ⟨Below.refl _ _,rfl⟩
theorem inc8_c {v:NV} (hB:Blk w g 29 v.cells) (hN:NetIn F w v N) {s:_} (hs:N.classes[i]?=some s):Gives Tryz.prog 131 #[.int .i64 (i:Int),.pointer (some ⟨g,0,none⟩)] w fun u w'=>Below w.heap.size w w'∧u= .string s.name:=by
 obtain ⟨vc,vn,vo,vf,vl,vk⟩:=v
 have hn:=hN.k
 obtain ⟨A,c,e,_⟩:=hn.form
 dsimp only at e
 subst e
 have hil:=(List.getElem?_eq_some_iff.1 hs).1
 obtain ⟨ad,rfl⟩:=hn.addr (by omega)
 obtain ⟨ad',cs,e1,hF,hrep,hc⟩:=hn.at hs
 cases e1
 obtain ⟨rfl,_⟩:=hrep
 refine gv (f:=131) ?_
 refine rnT ?_
 refine TW.ld rfl (hB.fld rfl) ?_
 refine rnT ?_
 refine TW.ld rfl (hc 0 _ rfl) ?_
 refine rnT ?_
 refine rt1 rfl ⟨Below.refl _ _,rfl⟩
theorem inc3_c:Gives Tryz.prog 122 #[.agg [Value.string s].toArray] w fun u w'=>Below w.heap.size w w'∧u= .bool true:=by
 refine gv (f:=122) ?_
 refine rnT ?_
 refine TW.box rfl rfl rfl rfl ?_
 rintro g w1 f1
 refine rnT ?_
 refine rt1 rfl ⟨f1.below,rfl⟩
theorem inc5_c {v:NV} {ov:Value} {o:Of} (hB:Blk w g 29 v.cells) (hN:NVform v N) (h:OfIn F w ov o):Gives Tryz.prog 125 #[.agg (ofV o ov).toArray,.pointer (some ⟨g,0,none⟩)] w fun u w'=>Below w.heap.size w w'∧u= .bool (dec (OfOK N o)):=by
 obtain ⟨A,cap,rfl,_⟩:=h.cd.form
 obtain ⟨vc,vn,vo,vf,vl,vk⟩:=v
 obtain ⟨⟨A1,c1,e1⟩,⟨A2,c2,e2⟩,⟨A3,c3,e3⟩,⟨A4,c4,e4⟩,⟨A5,c5,e5⟩,⟨A6,c6,e6⟩⟩:=id hN
 dsimp only at e1 e2 e3 e4 e5 e6
 subst e1 e2 e3 e4 e5 e6
 refine gv (f:=125) ?_
 refine rnT ?_
 refine TW.box rfl rfl rfl rfl ?_
 rintro g2 w2 f2
 refine rnT ?_
 refine TW.ldS rfl (fun _ _ hv=>(hB.next f2.below).fld hv) ?_
 refine TW.ldS rfl (fun _ _ hv=>f2.blk.fld hv) ?_
 refine TW.cl rfl (goodOffice_c hN (h.below f2.below)) ?_
 rintro y3 w3 ⟨d3,rfl⟩
 refine rnT ?_
 refine rt1 rfl ⟨f2.below.step d3,rfl⟩
theorem inc7_c {v:NV} {l:Li} (hB:Blk w g 29 v.cells) (hN:NVform v N):Gives Tryz.prog 129 #[.agg (liV l).toArray,.pointer (some ⟨g,0,none⟩)] w fun u w'=>Below w.heap.size w w'∧u= .bool (dec (LiOK N l)):=by
 obtain ⟨vc,vn,vo,vf,vl,vk⟩:=v
 obtain ⟨⟨A1,c1,e1⟩,⟨A2,c2,e2⟩,⟨A3,c3,e3⟩,⟨A4,c4,e4⟩,⟨A5,c5,e5⟩,⟨A6,c6,e6⟩⟩:=id hN
 dsimp only at e1 e2 e3 e4 e5 e6
 subst e1 e2 e3 e4 e5 e6
 refine gv (f:=129) ?_
 refine rnT ?_
 refine TW.box rfl rfl rfl rfl ?_
 rintro g2 w2 f2
 refine rnT ?_
 refine TW.ldS rfl (fun _ _ hv=>(hB.next f2.below).fld hv) ?_
 refine TW.ldS rfl (fun _ _ hv=>f2.blk.fld hv) ?_
 refine TW.cl rfl (goodLine_c hN) ?_
 rintro y3 w3 ⟨d3,rfl⟩
 refine rnT ?_
 refine rt1 rfl ⟨f2.below.step d3,rfl⟩
theorem inc9_c {l:Cla}:Gives Tryz.prog 133 #[.agg (claV l).toArray] w fun u w'=>Below w.heap.size w w'∧u= .bool (dec (ClaOK l)):=by
 refine gv (f:=133) ?_
 refine rnT ?_
 refine TW.box rfl rfl rfl rfl ?_
 rintro g2 w2 f2
 refine rnT ?_
 refine TW.ld rfl (f2.blk.fld rfl) ?_
 refine TW.cl rfl (isMinute_c) ?_
 rintro y3 w3 ⟨d3,rfl⟩
 refine rnT ?_
 refine TW.ld rfl ((f2.blk.next d3).fld rfl) ?_
 refine TW.callF (cap:= []) rfl rfl en134 rfl ct (Args.cons rfl id Args.nil) (fun _=>isMinute_c) ?_
 rintro w4 d4
 refine rnT ?_
 refine rt1 rfl ⟨(f2.below.step d3).step d4,?_⟩
 by_cases hq:ClaOK l
 ·rw [dec_pos hq]
  have q1:=hq.c1
  have q2:=hq.c2
  have q3:=hq.d1
  have q4:=hq.d2
  simp [q1,q2,q3,q4]
 ·rw [dec_neg hq]
  have: ¬((0≤l.cut∧l.cut≤1439)∧0≤l.del∧l.del≤1439):=fun h=>hq ⟨h.1.1,h.1.2,h.2.1,h.2.2⟩
  congr 1
  simp only [Bool.and_eq_false_iff,decide_eq_false_iff_not]
  omega
theorem FRow.form {w:World} {b:Nat} {v:Value} {n:Nat} (h:FRow w b v n): ∃A c,v= .slice A n c:=by
 obtain ⟨zs,h1,_⟩:=h
 obtain ⟨A,c,e,_⟩:=h1.form
 exact ⟨A,c,e⟩
theorem FRow.apps {w':World} {b n m:Nat} {v':Value} {zs cs:List Value} (h3: ∀g,v.ownBlock=some g→b≤g) (h2: ∀u∈zs,u.oneCell'=true) (hc: ∀u∈cs,u.oneCell'=true) (hO:OwnS w' 167 3 v' (n+m) (zs++cs)) (hn:v'.ownBlock=v.ownBlock∨v'.ownBlock=some w.heap.size) (hb:b≤w.heap.size):FRow w' b v' (n+m) :=
 ⟨zs++cs,hO,fun u hu=>(List.mem_append.1 hu).elim (h2 u) (hc u),fun g hg=>by
  rcases hn with h|h
  ·exact h3 g (by rw [←h]; exact hg)
  ·rw [h] at hg; cases hg; exact hb⟩
theorem own_news {e:TypeId} {sz m:Nat} {A:Option Addr} {c:Nat} {zs:List Value} (h:OwnS w e sz (.slice A m c) m zs): ∀(j:Nat) (u:Value),zs[j]?=some u→ ∃ad,A=some ad∧w.cell? (ad.add j)=some u:=fun j u hu=>by
 obtain ⟨A',c',e1,_,_,h1⟩:=h.form
 simp only [Value.slice.injEq] at e1
 obtain ⟨rfl,_,_⟩:=e1
 obtain ⟨g,h2,_,h3,_⟩:=h1 j u hu
 exact ⟨_,h2,by rw [addr0]; exact h3⟩
theorem incon_c {v:NV} (ht:Tabs w) (hN:NetAt w v N):Gives Tryz.prog 64 #[.agg v.cells.toArray] w fun u w'=>Below w.heap.size w w'∧ ∃n,FRow w' w.heap.size u n∧n≤1000∧(n=0↔ConsOK keys11 N):=by
 have hform:=NetIn.form hN
 obtain ⟨vc,vn,vo,vf,vl,vk⟩:=v
 obtain ⟨⟨A1,c1,e1⟩,⟨A2,c2,e2⟩,⟨A3,c3,e3⟩,⟨A4,c4,e4⟩,⟨A5,c5,e5⟩,⟨A6,c6,e6⟩⟩:=id hform
 dsimp only at e1 e2 e3 e4 e5 e6
 subst e1 e2 e3 e4 e5 e6
 have m1:=hN.c.len.2.2
 have m2:=hN.n.len.2.2
 refine gv (f:=64) ?_
 refine rnT ?_
 refine TW.box rfl rfl rfl rfl ?_
 rintro g1 w1 f1
 refine rnT ?_
 have hB1:=f1.blk
 have hN1:=net_step hN f1.below
 refine TW.ld rfl (hB1.fld rfl) ?_
 refine rnT ?_
 refine TW.ld rfl (hB1.fld rfl) ?_
 refine rnT ?_
 refine CW.joinP (fun z:Value×Nat=> [(1,none,.pointer (some ⟨g1,0,none⟩)),(3,none,z.1)])
  (fun z W'=>Below w1.heap.size w1 W'∧FRow W' w1.heap.size z.1 z.2∧z.2≤1∧(z.2=0↔N.names.length=N.cals.length)) (fun hj=> ?_) (fun z W2 hJ=> ?_)
 ·skip
  refine CW.condP rfl (fun hne=> ?_) (fun heq=> ?_)
  ·refine rnT ?_
   refine TW.build [0,1,2] _ [.int .i64 1,.int .i64 (-1),.int .i64 1] rfl rfl rfl (Args.cons rfl ct (Args.cons rfl ct (Args.cons rfl ct Args.nil))) (by kernel_rfl) ?_
   refine TW.buildSlice 167 _ rfl rfl rfl eo85 (Args.cons rfl ct Args.nil) rfl rfl rfl rfl rfl ?_
   rintro g2 w2 f2
   refine TW.append [.int .i64 1,.int .i64 (-1),.int .i64 1] rfl rfl go85 rfl (OwnS.nil _ _ _) rfl rfl (fun j u hj=>⟨_,rfl,f2.blk.fld hj⟩) (fun u hu=>by simp at hu; rcases hu with rfl|rfl|rfl<;>rfl) (by omega) (by omega) ?_
   rintro fv' w3 hO3 hg3 hn3
   refine TW.v V.assign rfl ⟨ct,trivial⟩ (fun _=>trivial) ?_
   refine TW.nil (KW.pick [0,1,2,3] [(0,_,_),(1,_,_),(2,_,_),(3,_,_)] rfl (KW.then_ ?_))
   exact CW.pick [1,3] _ rfl (hj (fv',1) _ ⟨f2.below.grown hg3 f2.below.size (fun q hq=>by simp [Value.ownBlock] at hq),FRow.app (w:=w2) (fun g hg=>by simp [Value.ownBlock] at hg) (fun u hu=>by cases hu) (fun u hu=>by simp at hu; rcases hu with rfl|rfl|rfl<;>rfl) hO3 hn3 f2.below.size,Nat.le_refl _,⟨fun h=>absurd h (Nat.succ_ne_zero 0),fun h=>by omega⟩⟩)
  ·refine CW.skip (KW.then_ ?_)
   exact CW.pick [1,3] _ rfl (hj (.slice none 0 0,0) _ ⟨Below.refl _ _,FRow.nil _ _,Nat.zero_le _,⟨fun _=>by omega,fun _=>rfl⟩⟩)
 obtain ⟨fv,n⟩:=z
 obtain ⟨b2,⟨zs,hO,h2,h3⟩,hn1,hiff⟩:=hJ
 dsimp only at hO h3 hn1 hiff
 have hBx1:=hB1.next b2
 have hNx1:=net_step hN1 b2
 have htx1:=ht.below (f1.below.step b2)
 refine rnT ?_
 refine TW.makeFunc rfl rfl (Args.cons rfl ct Args.nil) ?_
 refine rnT ?_
 refine TW.ld rfl (hBx1.fld rfl) ?_
 refine rnT ?_
 have hnm1: ∀j s,(calNm N)[j]?=some s→NameF W2 117 [.pointer (some ⟨g1,0,none⟩)] j s:=fun j s hs W hW=>by
  have hj:j<N.cals.length:=by have:=(List.getElem?_eq_some_iff.1 hs).1; simpa [calNm] using this
  have e:N.names.getD j ⟨#[]⟩=s:=by
   unfold calNm at hs
   rw [List.getElem?_map,List.getElem?_range hj] at hs
   simpa using hs
  exact (inc1_c (hBx1.next hW) (hNx1.below hW)).mono fun u w' ⟨q1,q2⟩=>⟨q1,by rw [q2,e]⟩
 have hgd1: ∀(j:Nat) x,N.cals[j]?=some x→ ∀cs W,Below W2.heap.size W2 W→calT.rep (fun k=>k<W2.heap.size) W cs x→Gives Tryz.prog 119 (.agg cs.toArray:: []).toArray W fun u W'=>Below W.heap.size W W'∧u= .bool (dec (CalOK x)):=fun j x hx cs W hW hr=>by
  obtain ⟨u,u2,rfl,q1,q2,q3⟩:=hr
  exact calValid_c (u:=u) (v:=u2) ⟨q1,q2,q3⟩
 refine TW.cl rfl (checkCal_c (capn:= [.pointer (some ⟨g1,0,none⟩)]) (capg:= []) (lim:=6) (nm:=calNm N) (G:=CalOK) htx1 hNx1.c en117 en119 (by decide) (by simp [calNm]) hnm1 hgd1) ?_
 rintro y1 w31 ⟨d1,n1,⟨zs1,hO1,k21,k31⟩,hle1,hiff1⟩
 obtain ⟨Y1,yc1,hy1,_⟩:=hO1.form
 subst hy1
 refine TW.append zs1 rfl rfl go85 rfl (hO.below d1) rfl hO1.1 (own_news hO1) k21 (by omega) (by omega) ?_
 rintro fv1 w41 hP1 hg1 hq1
 refine rnT ?_
 refine TW.pk [1,3,4] rfl ?_
 refine TW.makeFunc rfl rfl (Args.cons rfl ct Args.nil) ?_
 refine rnT ?_
 have b31:=b2.step d1
 have b41:=b31.grown hg1 b31.size h3
 obtain ⟨zz1,hz1,hz21,hz31⟩:=FRow.apps h3 h2 k21 hP1 hq1 b31.size
 have hBx2:=hB1.next b41
 have hNx2:=net_step hN1 b41
 have htx2:=ht.below (f1.below.step b41)
 refine TW.ld rfl (hBx2.fld rfl) ?_
 refine rnT ?_
 have hnm2: ∀j s,(N.ops)[j]?=some s→NameF w41 120 [.pointer (some ⟨g1,0,none⟩)] j s:=fun j s hs W hW=>inc2_c (hBx2.next hW) (hNx2.below hW) hs
 have hgd2: ∀(j:Nat) x,N.ops[j]?=some x→ ∀cs W,Below w41.heap.size w41 W→strT.rep (fun k=>k<w41.heap.size) W cs x→Gives Tryz.prog 122 (.agg cs.toArray:: []).toArray W fun u W'=>Below W.heap.size W W'∧u= .bool (dec ((fun _=>True) x)):=fun j x hx cs W hW hr=>by
  obtain ⟨rfl,_⟩:=hr
  exact inc3_c.mono fun u w' ⟨q1,q2⟩=>⟨q1,by rw [q2,dec_pos trivial]⟩
 refine TW.cl rfl (checkOpr_c (capn:= [.pointer (some ⟨g1,0,none⟩)]) (capg:= []) (lim:=6) (nm:=N.ops) (G:=(fun _=>True)) htx2 hNx2.o en120 en122 (by decide) (rfl) hnm2 hgd2) ?_
 rintro y2 w32 ⟨d2,n2,⟨zs2,hO2,k22,k32⟩,hle2,hiff2⟩
 obtain ⟨Y2,yc2,hy2,_⟩:=hO2.form
 subst hy2
 refine TW.append zs2 rfl rfl go85 rfl (hz1.below d2) rfl hO2.1 (own_news hO2) k22 (by omega) (by omega) ?_
 rintro fv2 w42 hP2 hg2 hq2
 refine rnT ?_
 refine TW.makeFunc rfl rfl (Args.cons rfl ct Args.nil) ?_
 refine rnT ?_
 have b32:=b41.step d2
 have b42:=b32.grown hg2 b32.size hz31
 obtain ⟨zz2,hz2,hz22,hz32⟩:=FRow.apps hz31 hz21 k22 hP2 hq2 b32.size
 have hBx3:=hB1.next b42
 have hNx3:=net_step hN1 b42
 have htx3:=ht.below (f1.below.step b42)
 refine TW.ld rfl (hBx3.fld rfl) ?_
 refine rnT ?_
 refine TW.makeFunc rfl rfl (Args.cons rfl ct Args.nil) ?_
 have hnm3: ∀j s,((N.offs.map (·.name)))[j]?=some s→NameF w42 123 [.pointer (some ⟨g1,0,none⟩)] j s:=fun j s hs W hW=>by
  rw [List.getElem?_map] at hs
  obtain ⟨x,hx,rfl⟩:=Option.map_eq_some_iff.1 hs
  exact inc4_c (hBx3.next hW) (hNx3.below hW) hx
 have hgd3: ∀(j:Nat) x,N.offs[j]?=some x→ ∀cs W,Below w42.heap.size w42 W→ofT.rep (fun k=>k<w42.heap.size) W cs x→Gives Tryz.prog 125 (.agg cs.toArray:: [.pointer (some ⟨g1,0,none⟩)]).toArray W fun u W'=>Below W.heap.size W W'∧u= .bool (dec ((OfOK N) x)):=fun j x hx cs W hW hr=>by
  obtain ⟨u,rfl,q1,q2,q3,q4,q5,q6,q7⟩:=hr
  exact inc5_c (hBx3.next hW) hform ⟨q1,q2,q3,q4,q5,q6,q7⟩
 refine TW.cl rfl (checkOff_c (capn:= [.pointer (some ⟨g1,0,none⟩)]) (capg:= [.pointer (some ⟨g1,0,none⟩)]) (lim:=12) (nm:=(N.offs.map (·.name))) (G:=(OfOK N)) htx3 hNx3.f en123 en125 (by decide) (by simp) hnm3 hgd3) ?_
 rintro y3 w33 ⟨d3,n3,⟨zs3,hO3,k23,k33⟩,hle3,hiff3⟩
 obtain ⟨Y3,yc3,hy3,_⟩:=hO3.form
 subst hy3
 refine TW.append zs3 rfl rfl go85 rfl (hz2.below d3) rfl hO3.1 (own_news hO3) k23 (by omega) (by omega) ?_
 rintro fv3 w43 hP3 hg3 hq3
 refine rnT ?_
 refine TW.pk [1,3,4,5,6] rfl ?_
 refine TW.makeFunc rfl rfl (Args.cons rfl ct Args.nil) ?_
 refine rnT ?_
 have b33:=b42.step d3
 have b43:=b33.grown hg3 b33.size hz32
 obtain ⟨zz3,hz3,hz23,hz33⟩:=FRow.apps hz32 hz22 k23 hP3 hq3 b33.size
 have hBx4:=hB1.next b43
 have hNx4:=net_step hN1 b43
 have htx4:=ht.below (f1.below.step b43)
 refine TW.ld rfl (hBx4.fld rfl) ?_
 refine rnT ?_
 refine TW.makeFunc rfl rfl (Args.cons rfl ct Args.nil) ?_
 have hnm4: ∀j s,((N.lines.map (·.name)))[j]?=some s→NameF w43 127 [.pointer (some ⟨g1,0,none⟩)] j s:=fun j s hs W hW=>by
  rw [List.getElem?_map] at hs
  obtain ⟨x,hx,rfl⟩:=Option.map_eq_some_iff.1 hs
  exact inc6_c (hBx4.next hW) (hNx4.below hW) hx
 have hgd4: ∀(j:Nat) x,N.lines[j]?=some x→ ∀cs W,Below w43.heap.size w43 W→liT.rep (fun k=>k<w43.heap.size) W cs x→Gives Tryz.prog 129 (.agg cs.toArray:: [.pointer (some ⟨g1,0,none⟩)]).toArray W fun u W'=>Below W.heap.size W W'∧u= .bool (dec ((LiOK N) x)):=fun j x hx cs W hW hr=>by
  obtain ⟨rfl,_⟩:=hr
  exact inc7_c (hBx4.next hW) hform
 refine TW.cl rfl (checkLin_c (capn:= [.pointer (some ⟨g1,0,none⟩)]) (capg:= [.pointer (some ⟨g1,0,none⟩)]) (lim:=40) (nm:=(N.lines.map (·.name))) (G:=(LiOK N)) htx4 hNx4.l en127 en129 (by decide) (by simp) hnm4 hgd4) ?_
 rintro y4 w34 ⟨d4,n4,⟨zs4,hO4,k24,k34⟩,hle4,hiff4⟩
 obtain ⟨Y4,yc4,hy4,_⟩:=hO4.form
 subst hy4
 refine TW.append zs4 rfl rfl go85 rfl (hz3.below d4) rfl hO4.1 (own_news hO4) k24 (by omega) (by omega) ?_
 rintro fv4 w44 hP4 hg4 hq4
 refine rnT ?_
 refine TW.makeFunc rfl rfl (Args.cons rfl ct Args.nil) ?_
 refine rnT ?_
 have b34:=b43.step d4
 have b44:=b34.grown hg4 b34.size hz33
 obtain ⟨zz4,hz4,hz24,hz34⟩:=FRow.apps hz33 hz23 k24 hP4 hq4 b34.size
 have hBx5:=hB1.next b44
 have hNx5:=net_step hN1 b44
 have htx5:=ht.below (f1.below.step b44)
 refine TW.ld rfl (hBx5.fld rfl) ?_
 refine rnT ?_
 have hnm5: ∀j s,((N.classes.map (·.name)))[j]?=some s→NameF w44 131 [.pointer (some ⟨g1,0,none⟩)] j s:=fun j s hs W hW=>by
  rw [List.getElem?_map] at hs
  obtain ⟨x,hx,rfl⟩:=Option.map_eq_some_iff.1 hs
  exact inc8_c (hBx5.next hW) (hNx5.below hW) hx
 have hgd5: ∀(j:Nat) x,N.classes[j]?=some x→ ∀cs W,Below w44.heap.size w44 W→claT.rep (fun k=>k<w44.heap.size) W cs x→Gives Tryz.prog 133 (.agg cs.toArray:: []).toArray W fun u W'=>Below W.heap.size W W'∧u= .bool (dec (ClaOK x)):=fun j x hx cs W hW hr=>by
  obtain ⟨rfl,_⟩:=hr
  exact inc9_c
 refine TW.cl rfl (checkCls_c (capn:= [.pointer (some ⟨g1,0,none⟩)]) (capg:= []) (lim:=4) (nm:=(N.classes.map (·.name))) (G:=ClaOK) htx5 hNx5.k en131 en133 (by decide) (by simp) hnm5 hgd5) ?_
 rintro y5 w35 ⟨d5,n5,⟨zs5,hO5,k25,k35⟩,hle5,hiff5⟩
 obtain ⟨Y5,yc5,hy5,_⟩:=hO5.form
 subst hy5
 refine TW.append zs5 rfl rfl go85 rfl (hz4.below d5) rfl hO5.1 (own_news hO5) k25 (by omega) (by omega) ?_
 rintro fv5 w45 hP5 hg5 hq5
 refine rnT ?_
 have b35:=b44.step d5
 have b45:=b35.grown hg5 b35.size hz34
 obtain ⟨zz5,hz5,hz25,hz35⟩:=FRow.apps hz34 hz24 k25 hP5 hq5 b35.size
 refine rt1 rfl ⟨f1.below.step b45,_,⟨zz5,hz5,hz25,fun g hg=>Nat.le_trans f1.below.size (hz35 g hg)⟩,by omega,?_⟩
 constructor
 ·intro h
  have e0:=hiff.1 (by omega)
  have q1:=hiff1.1 (by omega)
  rw [calNm_eq e0] at q1
  exact ⟨e0,q1,hiff2.1 (by omega),hiff3.1 (by omega),hiff4.1 (by omega),hiff5.1 (by omega)⟩
 ·intro h
  have e0:=hiff.2 h.len
  have q1:=hiff1.2 (by rw [calNm_eq h.len]; exact h.cals)
  have q2:=hiff2.2 h.ops
  have q3:=hiff3.2 h.offs
  have q4:=hiff4.2 h.lines
  have q5:=hiff5.2 h.classes
  omega
end Go.Proofs.YtobaafdejnimkaaGreatDoor
