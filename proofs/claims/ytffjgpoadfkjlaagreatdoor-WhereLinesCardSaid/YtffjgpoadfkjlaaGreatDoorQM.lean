/- Texts of this claim,joined. -/
import Derived.Test.YtffjgpoadfkjlaaGreatDoorQL
set_option linter.unusedSimpArgs false
set_option linter.unusedVariables false
set_option maxRecDepth 100000
set_option maxHeartbeats 4000000
namespace Go.Proofs.YtffjgpoadfkjlaaGreatDoor
open Go.PF Go.RowKit Go.Ord
attribute [local irreducible] TW CW KW DW
theorem SL.dropS {α:Type} {T:Ty α} {F:Nat→Prop} {w:World} {A:Option Addr} {n c:Nat} {l:List α} (h:SL T F w (.slice A n c) l) {i:Nat} (hi:i≤l.length):SL T F w (.slice (if c=i then A else A.map (·.add (i*T.n))) (n-i) (c-i)) (l.drop i):=by
 obtain ⟨A',c',hv,h1,h2,h3⟩:=h
 simp only [Value.slice.injEq] at hv
 obtain ⟨rfl,rfl,rfl⟩:=hv
 refine ⟨_,_,by rw [List.length_drop],by rw [List.length_drop]; omega,by rw [List.length_drop]; omega,fun j x hx=> ?_⟩
 rw [List.getElem?_drop] at hx
 have hlt:=(List.getElem?_eq_some_iff.1 hx).1
 obtain ⟨ad,cs,rfl,hF,hc,hr⟩:=h3 (i+j) x hx
 rw [if_neg (by omega)]
 refine ⟨ad.add (i*T.n),cs,rfl,by rw [add_block]; exact hF,fun k u hu=> ?_,hr⟩
 have:=hc k u hu
 rw [add_add ad (i*T.n) (j*T.n),←Nat.add_mul]
 exact this
def SetsV (b:Nat) (v:Value) (n:Nat) (u:Value) (W:World):Prop:= ∃gs gl,u= .func (.func 89) #[] [.pointer (some ⟨gs,0,none⟩),.pointer (some ⟨gl,0,none⟩)].toArray∧Blk W gs 3 [.int .i64 (n:Int)]∧Blk W gl 37 [v]∧b≤gs∧b≤gl
theorem SetsV.mono (b:Nat) (v:Value) (n:Nat):Ent.mono (.pr (SetsV b v n)):=fun _ _ _ hb ⟨gs,gl,h1,h2,h3,h4⟩=>⟨gs,gl,h1,h2.next hb,h3.next hb,h4⟩
theorem sets_c {w:World} {A:Option Addr} {k c n:Nat}:Gives Tryz.prog 40 #[.slice A k c,.int .i64 (n:Int)] w fun u w'=>Below w.heap.size w w'∧SetsV w.heap.size (.slice A k c) n u w':=by
 refine gv (f:=40) ?_
 refine rnT ?_
 refine TW.box rfl rfl rfl rfl ?_
 rintro g1 w1 f1
 refine TW.box rfl rfl rfl rfl ?_
 rintro g2 w2 f2
 refine rnT ?_
 refine TW.makeFunc rfl rfl (Args.cons rfl ct (Args.cons rfl ct Args.nil)) ?_
 refine rnT ?_
 refine rt1 rfl ⟨f1.below.step f2.below,g2,g1,rfl,f2.blk,f1.blk.next f2.below,?_,?_⟩
 ·have:=f2.at_; have:=f1.below.size; omega
 ·have:=f1.at_; omega
def setPos (l:List Int) (n:Nat) (w:World) (pre:List (Value×List Int)) (x:Value×List Int) (M:Nat→Prop) (W:World):Prop:=(∃suf,setsS l n=pre.map (·.2)++x.2::suf)∧SL intT (fun k=>w.heap.size≤k∧ ¬M k) W x.1 x.2
theorem sets_iter: ∀(n:Nat) {F:Nat→Prop} {v:Value} {l:List Int} {w:World} {gs gl:Nat},SL intT F w v l→(∀k,F k→k<w.heap.size)→n≤l.length→l.length≤1000→Blk w gs 3 [.int .i64 (n:Int)]→Blk w gl 37 [v] →
  IterW Tryz.prog 89 [.pointer (some ⟨gs,0,none⟩),.pointer (some ⟨gl,0,none⟩)] (fun x:Value×List Int=> [x.1]) (setPos l n w) (fun xs=>xs.map (·.2)=setsS l n) (fun k=>k=gs∨k=gl∨F k) w:=by
 intro n
 induction n with
 | zero =>
  intro F v l w gs gl hl hF hn hsm hgs hgl yl J Jx W M hown hsz hyl hM hMlt hJ hJx hy h0
  have hgsW:Blk W gs 3 [.int .i64 ((0:Nat):Int)]:=(hown gs (.inl rfl) hgs.lt).trans hgs
  refine gvM (f:=89) ?_
  refine rnT ?_
  refine TW.box rfl rfl rfl rfl ?_
  rintro g3 w1 f1
  refine rnT ?_
  refine TW.ld rfl ((hgsW.next f1.below).cell 0) ?_
  refine rnT ?_
  refine CW.condP rfl (fun h1=> ?_) (fun h2=> ?_)
  ·refine rnT ?_
   refine TW.ld rfl (f1.blk.cell 0) ?_
   refine TW.buildSlice0 3 rfl rfl eo37 ?_
   rintro g4 w2 f2
   have hb2:=f1.below.step f2.below
   have hj2:J [] M w2:=hJ _ _ _ _ h0 (.of_below hb2)
   have hs2:=hb2.size
   have hset0:setsS l 0= [[]]:=by cases l<;>rfl
   refine TW.yield rfl rfl rfl (Args.cons rfl ct Args.nil) (hy [] (.slice (some ⟨g4,0,none⟩) 0 0,[]) M w2 hj2 ⟨⟨[],by rw [hset0]; rfl⟩,⟨_,_,rfl,Nat.le_refl _,by simp,fun i x hx=>by simp at hx⟩⟩ (fun k hk=>by have:=hMlt k hk; omega) (by omega)) ?_
   rintro yb W3 hR
   refine rnT ?_
   refine retMs (n:=W.heap.size) [] Tryz.results89 List.nodup_nil (fun D hD=>by cases hD) (fun w' hx=> ?_) .ret (.inl rfl)
   cases yb with
   | true =>
    obtain ⟨M',hj3,_⟩:=hR.yes rfl
    exact .inl ⟨_,M',by rw [hset0]; rfl,hJ _ _ _ _ hj3 hx⟩
   | false =>
    obtain ⟨M',hj3⟩:=hR.no rfl
    exact .inr ⟨_,M',hJx _ _ _ _ hj3 hx⟩
  ·exact absurd rfl h2
 | succ m ih =>
  intro F v l w gs gl hl hF hn hsm hgs hgl yl J Jx W M hown hsz hyl hM hMlt hJ hJx hy h0
  obtain ⟨A,cap,rfl,_⟩:=hl.form
  obtain ⟨ad,rfl⟩:=hl.addr (by omega)
  have mem: ∀W':World,(∀k,(k=gs∨k=gl∨F k)→k<w.heap.size→W'.heap[k]?=w.heap[k]?)→Blk W' gs 3 [.int .i64 ((m+1:Nat):Int)]∧Blk W' gl 37 [.slice (some ad) l.length cap]∧SL intT F W' (.slice (some ad) l.length cap) l:=fun W' h =>
   ⟨(h gs (.inl rfl) hgs.lt).trans hgs,(h gl (.inr (.inl rfl)) hgl.lt).trans hgl,hl.mono (Kept.of_blocks fun k hk hlt=>h k (.inr (.inr hk)) hlt)⟩
  obtain ⟨m1,m2,m3⟩:=mem W hown
  refine gvM (f:=89) ?_
  refine rnT ?_
  refine TW.box rfl rfl rfl rfl ?_
  rintro g3 w1 f1
  refine rnT ?_
  have hg3:=f1.at_
  have hs1:=f1.size
  refine TW.ld rfl ((m1.next f1.below).cell 0) ?_
  refine rnT ?_
  refine CW.condP rfl (fun h1=> ?_) (fun h2=> ?_)
  ·exfalso
   omega
  refine rnT ?_
  refine TW.ld rfl ((m2.next f1.below).cell 0) ?_
  refine rnT ?_
  refine TW.ld rfl ((m1.next f1.below).cell 0) ?_
  refine rnT ?_
  refine CW.pk [0,1,2,3,15,16] rfl ?_
  refine CW.loopD (fun x:Nat×List (Value×List Int)×(Nat→Prop)×List Nat=>x.2.2.2.map markOf) (fun x=> [(1,none,.pointer (some ⟨gs,0,none⟩)),(2,none,.pointer (some ⟨gl,0,none⟩)),(3,none,.pointer (some ⟨g3,0,none⟩)),(15,none,.int .i64 ((l.length:Int)-((m+1:Nat):Int)+1)),(16,none,.int .i64 (x.1:Int))])
   (fun x W'=>J x.2.1 x.2.2.1 W'∧x.1≤l.length-m∧x.2.1.map (·.2)=setsTo l m x.1∧w1.heap.size≤W'.heap.size∧(∀k,x.2.2.1 k→k<W'.heap.size)∧(∀k,(k=gs∨k=gl∨F k)→k<w.heap.size→W'.heap[k]?=w.heap[k]?∧ ¬x.2.2.1 k)∧Blk W' g3 104 [.func (.yield yl) #[] #[]]∧ ¬x.2.2.1 g3∧x.2.2.2.Nodup ∧
    ∀ D∈x.2.2.2,w1.heap.size≤D∧W'.heap[D]?=some (.deferred (some []))∧ ¬x.2.2.1 D) (fun x=>l.length-m-x.1)
   (0,[],M,[]) [1,2,3,15,16] rfl ⟨hJ _ _ _ _ h0 (.of_below f1.below),Nat.zero_le _,rfl,Nat.le_refl _,fun k hk=>by have:=hMlt k hk; show k<w1.heap.size; omega,fun k hk hlt=>⟨(f1.below.block k (by omega)).trans (hown k hk hlt),(hM k hk).1⟩,f1.blk,fun h=>by have:=hMlt _ h; omega,List.nodup_nil,fun D hD=>by cases hD⟩ rfl ?_
  rintro ⟨i,pre,M1,Ds⟩ W1 ⟨hj,hi,hpre,hsz1,hM1,hk1,hB3,hM3,hnd,hDs⟩
  dsimp only at hj hi hpre hsz1 hM1 hk1 hB3 hM3 hnd hDs
  refine rnT ?_
  refine CW.condP rfl (fun hlt=> ?_) (fun hge=> ?_)
  ·have hil:i<l.length-m:=by omega
   have hill:i<l.length:=by omega
   obtain ⟨n1,n2,n3⟩:=mem W1 (fun k hk hlt=>(hk1 k hk hlt).1)
   have hx:l[i]?=some l[i]:=List.getElem?_eq_getElem hill
   refine rnT ?_
   refine TW.newVar1 rfl zc3 rfl sz3 rfl ?_
   rintro g4 w4 f4
   refine rnT ?_
   refine CW.draw mixed (by kernel_rfl) ?_
   have hg4:=f4.at_
   have n1':=n1.next f4.below
   have n2':=n2.next f4.below
   have n3':=n3.below f4.below
   refine DW.ld rfl (n2'.cell 0) ?_
   refine DW.ld rfl (f4.blk.cell 0) ?_
   refine rnD ?_
   refine DW.v V.sliceL rfl ⟨ct,ct,trivial⟩ (fun _=>by (try dsimp only); omega) ?_
   refine DW.ld rfl (n1'.cell 0) ?_
   refine rnD ?_
   have e1:((i:Int)+1).toNat=i+1:=by omega
   have hdrop:SL intT F w4 (.slice (if cap=((i:Int)+1).toNat then some ad else (some ad).map (·.add (((i:Int)+1).toNat*1))) (l.length-((i:Int)+1).toNat) (cap-((i:Int)+1).toNat)) (l.drop (i+1)):=by
    have:=SL.dropS n3' (i:=i+1) (by omega)
    rw [e1]
    exact this
   have hcall: ∀w':World,Below w4.heap.size w4 w'→Gives Tryz.prog 40 #[.slice (if cap=((i:Int)+1).toNat then some ad else (some ad).map (·.add (((i:Int)+1).toNat*1))) (l.length-((i:Int)+1).toNat) (cap-((i:Int)+1).toNat),.int .i64 (((m+1:Nat):Int)-1)] w' fun u w''=>Below w'.heap.size w' w''∧SetsV w4.heap.size (.slice (if cap=((i:Int)+1).toNat then some ad else (some ad).map (·.add (((i:Int)+1).toNat*1))) (l.length-((i:Int)+1).toNat) (cap-((i:Int)+1).toNat)) m u w'':=fun w' hb'=>by
    rw [show (((m+1:Nat):Int)-1)=(m:Int) by omega]
    exact sets_c.mono fun u w'' ⟨h1,gs',gl',h2,h3,h4,h5,h6⟩=>⟨h1,gs',gl',h2,h3,h4,Nat.le_trans hb'.size h5,Nat.le_trans hb'.size h6⟩
   refine DW.cl (.pr (SetsV w4.heap.size (.slice (if cap=((i:Int)+1).toNat then some ad else (some ad).map (·.add (((i:Int)+1).toNat*1))) (l.length-((i:Int)+1).toNat) (cap-((i:Int)+1).toNat)) m)) ?_ rfl (fun _ w' hb'=>hcall w' hb') ?_
   ·exact SetsV.mono _ _ _
   refine DW.nil (DW.finP [1,2,3,4,15,16,25] rfl fun vs w5 hb5 hs5=>KW.then_ ?_)
   obtain ⟨v1,v2,v3,v4,v15,v16,v25,rfl,h1,h2,h3,h4,h15,h16,h25⟩:=Sats.seven hs5
   refine CW.block ?_
   cases h1
   cases h2
   cases h3
   cases h4
   cases h15
   cases h16
   obtain ⟨gs',gl',rfl,hgs',hgl',hgs1,hgl1⟩:=h25
   have hb45:=f4.below.step hb5
   have hs45:=hb45.size
   have hs4:=f4.below.size
   have hs5:=hb5.size
   have hd5:=hdrop.below hb5
   have hj5:J pre M1 w5:=hJ _ _ _ _ hj (.of_below hb45)
   have hB35:=hB3.next hb45
   have hB45:=f4.blk.next hb5
   have o1:=n1.next hb45
   have o2:=n2.next hb45
   have o3:=n3.below hb45
   have hgslt:=hgs'.lt
   have hgllt:=hgl'.lt
   have hset:setsTo l m (i+1)=setsTo l m i++(setsS (l.drop (i+1)) m).map (l[i]:: ·):=by
    rw [setsTo_succ]
    unfold setsAt
    rw [hx]
   have hsub: ∃rest,setsS l (m+1)=setsTo l m (i+1)++rest:=by
    rw [setsS_eq]
    refine ⟨(List.range' (i+1) (l.length-(i+1))).flatMap (setsAt l m),?_⟩
    unfold setsTo
    rw [←List.flatMap_append,List.range_eq_range',List.range_eq_range']
    congr 1
    have:=List.range'_append_1 (s:=0) (m:=i+1) (n:=l.length-(i+1))
    rw [Nat.zero_add,show i+1+(l.length-(i+1))=l.length by omega] at this
    exact this.symm
   have hFM1: ∀k,F k→k<w.heap.size∧ ¬M1 k∧k≠yl:=fun k hk=>⟨hF k hk,(hk1 k (.inr (.inr hk)) (hF k hk)).2,(hM k (.inr (.inr hk))).2⟩
   have hgs1':gs<w.heap.size∧ ¬M1 gs∧gs≠yl:=⟨hgs.lt,(hk1 gs (.inl rfl) hgs.lt).2,(hM gs (.inl rfl)).2⟩
   have hgl1':gl<w.heap.size∧ ¬M1 gl∧gl≠yl:=⟨hgl.lt,(hk1 gl (.inr (.inl rfl)) hgl.lt).2,(hM gl (.inr (.inl rfl))).2⟩
   have hg4M: ¬M1 g4:=fun h=>by have:=hM1 _ h; omega
   have hit5:=ih (F:=F) hd5 (fun k hk=>by have:=hF k hk; omega) (by rw [List.length_drop]; omega) (by rw [List.length_drop]; omega) hgs' hgl'
   refine CW.rangeW rfl en89 hit5 rfl (fun _=>rfl)
    (fun pre2 Mi Wi=> ∃outs M,Mi=(fun k=>M k∨k=yl)∧J (pre++outs) M Wi∧outs.map (·.2)=(pre2.map (·.2)).map (l[i]:: ·)∧w5.heap.size≤Wi.heap.size∧(∀k,M k→k<Wi.heap.size)∧(∀k,k<w5.heap.size→ ¬M1 k→k≠yl→Wi.heap[k]?=w5.heap[k]?)∧ ∀k,k<w5.heap.size→M k→M1 k)
    (fun c pre2 Mi Wi=>c= .ret∧(∃outs M,Jx outs M Wi)∧ ∀k,k<w5.heap.size→ ¬M1 k→k≠yl→Wi.heap[k]?=w5.heap[k]?)
    (fun k=>M1 k∨k=yl) ?_ ?_ ?_ ?_ ?_ ?_ ?_ ?_
   ·rintro k (hk|rfl)
    ·have:=hM1 k hk
     refine ⟨by omega,?_⟩
     rintro (rfl|rfl|h)
     ·omega
     ·omega
     ·exact (hFM1 k h).2.1 hk
    ·refine ⟨by omega,?_⟩
     rintro (rfl|rfl|h)
     ·omega
     ·omega
     ·exact (hFM1 _ h).2.2 rfl
   ·rintro k (rfl|rfl|h)
    ·exact hgslt
    ·exact hgllt
    ·have:=hF k h; omega
   ·rintro pre2 Mi Wa Wb ⟨outs,M2,a1,a2,a3,a4,a5,a6,a7⟩ hx'
    refine ⟨outs,M2,a1,hJ _ _ _ _ a2 (hx'.less (by omega)),a3,Nat.le_trans a4 hx'.size,fun k hk=>Nat.lt_of_lt_of_le (a5 k hk) hx'.size,fun k h1 h2 h3=> ?_,a7⟩
    have e:=a6 k h1 h2 h3
    rw [Array.getElem?_eq_getElem h1] at e ⊢
    exact hx'.block k _ e (.inl h1)
   ·rintro c pre2 Mi Wa Wb ⟨a1,⟨outs,M2,a2⟩,a6⟩ hx'
    refine ⟨a1,⟨outs,M2,hJx _ _ _ _ a2 (hx'.less (by omega))⟩,fun k h1 h2 h3=> ?_⟩
    have e:=a6 k h1 h2 h3
    rw [Array.getElem?_eq_getElem h1] at e ⊢
    exact hx'.block k _ e (.inl h1)
   ·exact ⟨[],M1,rfl,by rw [List.append_nil]; exact hj5,rfl,Nat.le_refl _,fun k hk=>by have:=hM1 k hk; omega,fun k _ _ _=>rfl,fun k _ h=>h⟩
   ·rintro D L pre2 x Mi Wi hD hL ⟨outs,M2,rfl,a2,a3,a4,a5,a6,a7⟩ ⟨⟨suf,hsuf⟩,hxs⟩ hMlt2 hML hMD hrec
    have hLM: ¬M2 L∧L≠yl:=⟨fun h=>hML (.inl h),fun h=>hML (.inr h)⟩
    refine rnT ?_
    refine KW.begin hrec fun W2 hx2 hsz2 hk2 hrec2=> ?_
    have old: ∀k,k<w5.heap.size→ ¬M1 k→k≠yl→W2.heap[k]?=w5.heap[k]?:=fun k h1 h2 h3=>(hk2 k (by omega)).trans (a6 k h1 h2 h3)
    have p2:Blk W2 gl 37 [.slice (some ad) l.length cap]:=(old gl (by omega) hgl1'.2.1 hgl1'.2.2).trans o2
    have p3:SL intT F W2 (.slice (some ad) l.length cap) l:=o3.mono (Kept.of_blocks fun k hk hlt=>old k hlt (hFM1 k hk).2.1 (hFM1 k hk).2.2)
    have p4:Blk W2 g4 3 [.int .i64 (i:Int)]:=(old g4 (by have:=f4.size; omega) hg4M (by omega)).trans hB45
    have p5:Blk W2 g3 104 [.func (.yield yl) #[] #[]]:=(old g3 (by omega) hM3 (by omega)).trans hB35
    obtain ⟨ad',he',hci,hI⟩:=p3.int hx
    cases he'
    obtain ⟨xv,xl⟩:=x
    dsimp only at hsuf hxs
    obtain ⟨Ax,cx,rfl,_⟩:=hxs.form
    have hxs2:SL intT (fun k=>w5.heap.size≤k∧ ¬(M2 k∨k=yl)) W2 (.slice Ax xl.length cx) xl:=hxs.ext hx2
    have hn1: ∀(j:Nat) (u:Value),(xl.map (Value.int .i64))[j]?=some u→ ∃ad':Addr,Ax=some ad'∧W2.cell? (ad'.add j)=some u:=by
     intro j u hu
     obtain ⟨y,hy,rfl⟩:=by simpa using hu
     obtain ⟨ad',h1,h2,_⟩:=hxs2.int (i:=j) hy
     exact ⟨ad',h1,by rw [Nat.mul_one] at h2; exact h2⟩
    have hxlm:xl∈setsS (l.drop (i+1)) m:=by rw [hsuf]; simp
    have hxlen:xl.length=m:=(mem_setsS.1 hxlm).2
    refine rnT ?_
    refine CW.drawR mixed fun W3 hW3=> ?_
    refine RW.draw .own 8 (by kernel_rfl) (by kernel_rfl) rfl rfl hW3 ?_
    refine DW.ld rfl (p5.cell 0) ?_
    refine DW.ld rfl (p2.cell 0) ?_
    refine DW.ld rfl (p4.cell 0) ?_
    refine DW.v V.indexAddr rfl ⟨ct,ct,trivial⟩ (fun _=>by omega) ?_
    refine DW.ld rfl hci ?_
    refine OW.buildSlice 3 _ rfl rfl rfl eo37 (DArgs.cons rfl ct DArgs.nil) rfl rfl rfl rfl rfl ?_
    refine rnD ?_
    refine OW.append (m:=xl.length) (A:=Ax) (xl.map (Value.int .i64)) rfl rfl go37 rfl (by kernel_rfl) rfl ct hn1 (by simp) (fun u hu=>by obtain ⟨y,_,rfl⟩:=List.mem_map.1 hu; rfl) (by omega) (by omega) ?_
    refine DW.nil (DW.finP [27,34] rfl fun vs w6 hb6 hs6=>KW.rk' ?_)
    obtain ⟨v27,v34,rfl,h27,h34⟩:=Sats.two hs6
    cases h27
    have h34':OwnS w6 3 1 v34 (1+xl.length) ([.int .i64 l[i]]++xl.map (Value.int .i64))∧ ∀g,v34.ownBlock=some g→W2.heap.size≤g:=h34
    have hxI: ∀y∈xl,I64 y:=fun y hy=>by
     obtain ⟨j,hj,hje⟩:=List.getElem_of_mem hy
     obtain ⟨_,_,_,h⟩:=hxs2.int (i:=j) (x:=y) (by rw [←hje]; exact List.getElem?_eq_getElem hj)
     exact h
    have hsl6:SL intT (fun k=>w.heap.size≤k∧ ¬M2 k) w6 v34 (l[i]::xl):=by
     refine OwnS.toInts (e:=3) ?_ (fun y hy=> ?_) (fun g hg=> ?_) (by simp; omega)
     ·have:=h34'.1
      rw [Nat.add_comm] at this
      exact this
     ·rcases List.mem_cons.1 hy with rfl|hy
      ·exact hI
      ·exact hxI y hy
     ·have:=h34'.2 g hg
      refine ⟨by omega,fun h=> ?_⟩
      have:=a5 g h
      omega
    have hj6:J (pre++outs) M2 w6:=hJ _ _ _ _ (hJ _ _ _ _ a2 (hx2.less (by omega))) (.of_below hb6)
    have hs6':=hb6.size
    have hpos:setPos l (m+1) w (pre++outs) (v34,l[i]::xl) M2 w6:=by
     refine ⟨?_,hsl6⟩
     obtain ⟨rest,hrest⟩:=hsub
     refine ⟨suf.map (l[i]:: ·)++rest,?_⟩
     rw [hrest,hset,hsuf,List.map_append,List.map_append,hpre,a3]
     simp
    refine RW.one (by kernel_rfl) (by kernel_rfl) rfl ?_
    refine TW.yield rfl rfl rfl (Args.cons rfl ct Args.nil) (hy (pre++outs) (v34,l[i]::xl) M2 w6 hj6 hpos (fun k hk=>by have:=a5 k hk; omega) (by omega)) ?_
    rintro yb W7 hR
    refine TW.nil (KW.pick [35] [(35,_,_)] rfl (KW.rk ?_))
    refine RW.one (by kernel_rfl) (by kernel_rfl) rfl ?_
    refine TW.v V.not rfl ⟨ct,trivial⟩ (fun _=>trivial) ?_
    refine TW.nil (KW.pick [36] [(36,_,_)] rfl (KW.rk ?_))
    refine RW.end rfl (KW.pick [36] [(36,_,_)] rfl (KW.then_ ?_))
    have hL2:L<W2.heap.size:=hrec2.lt
    have hrec7:=hrec2.kept ((hR.kept L (by omega) hLM.1 hLM.2).trans (hb6.block L hL2))
    have hs7:=hR.size
    have kept7: ∀k,k<Wi.heap.size→ ¬(M2 k∨k=yl)→k≠L→W7.heap[k]?=Wi.heap[k]?:=fun k h1 h2 h3 =>
     (hR.kept k (by omega) (fun h=>h2 (.inl h)) (fun h=>h2 (.inr h))).trans ((hb6.block k (by omega)).trans (hk2 k h3))
    have old7: ∀k,k<w5.heap.size→ ¬M1 k→k≠yl→W7.heap[k]?=w5.heap[k]?:=fun k h1 h2 h3 =>
     (kept7 k (by omega) (fun h=>h.elim (fun h=>h2 (a7 k h1 h)) h3) (by omega)).trans (a6 k h1 h2 h3)
    refine CW.cond rfl (fun hno=> ?_) (fun hgo=> ?_)
    ·refine rnT ?_
     obtain ⟨M',hjx⟩:=hR.no (by simpa using hno)
     refine KW.endR hrec7 fun W8 hx8 hsz8 hk8 hrec8=> ?_
     refine ⟨by omega,fun k h1 h2 h3=>(hk8 k h3).trans (kept7 k h1 h2 h3),fun h=>(by cases h),fun _=>⟨M',.ret,⟨rfl,⟨_,M',hJx _ _ _ _ hjx (hx8.less (by omega))⟩,fun k h1 h2 h3=>(hk8 k (by omega)).trans (old7 k h1 h2 h3)⟩,hrec8⟩⟩
    ·refine rnT ?_
     obtain ⟨M',hj7,hm7⟩:=hR.yes (by simpa using hgo)
     have hM'L: ∀k,k<Wi.heap.size→M' k→M2 k:=fun k h1 h2=>by
      rcases (hm7 k h2).1 with h|h
      ·exact h
      ·omega
     have hLi:L<Wi.heap.size:=by omega
     refine KW.endN hrec7 fun W8 hx8 hsz8 hk8 hrec8=> ?_
     refine ⟨by omega,fun k h1 h2 h3=>(hk8 k h3).trans (kept7 k h1 h2 h3),fun _=>⟨fun k=>M' k∨k=yl,⟨⟨outs++ [(v34,l[i]::xl)],M',rfl,?_,?_,by omega,fun k hk=>by have:=(hm7 k hk).2; omega,fun k h1 h2 h3=>(hk8 k (by omega)).trans (old7 k h1 h2 h3),fun k h1 h2=>a7 k h1 (hM'L k (by omega) h2)⟩,?_,?_,hrec8⟩,fun k hk=> ?_⟩,fun h=>by cases h⟩
     ·rw [←List.append_assoc]
      exact hJ _ _ _ _ hj7 (hx8.less (by omega))
     ·simp [a3]
     ·rintro (h|h)
      ·exact hLM.1 (hM'L L hLi h)
      ·exact hLM.2 h
     ·rintro (h|h)
      ·exact hMD (.inl (hM'L D (by omega) h))
      ·exact hMD (.inr h)
     ·rcases hk with hk|rfl
      ·obtain ⟨q1,q2⟩:=hm7 k hk
       exact ⟨q1.elim (fun h=> .inl (.inl h)) (fun h=> .inr (by omega)),by omega⟩
      ·exact ⟨.inl (.inr rfl),by omega⟩
   ·rintro D xs Mi Wi hD hdone ⟨outs,M2,rfl,a2,a3,a4,a5,a6,a7⟩ hMD hdef
    refine KW.blockN (KW.blockN (KW.then_ ?_))
    refine rnT ?_
    have hDlt:D<Wi.heap.size:=(Array.getElem?_eq_some_iff.1 hdef).1
    have hM2D: ∀k,k<W1.heap.size→M2 k→M1 k:=fun k h1 h2=>a7 k (by omega) h2
    refine KW.roundD (i+1,pre++outs,M2,D::Ds) [1,2,3,15,16] rfl rfl ⟨a2,?_,?_,?_,a5,?_,?_,?_,?_,?_⟩ ?_
    ·show i+1≤l.length-m
     omega
    ·show (pre++outs).map (·.2)=setsTo l m (i+1)
     rw [List.map_append,hpre,a3,hdone,hset]
    ·show w1.heap.size≤Wi.heap.size
     omega
    ·intro k hk hlt
     have h:=hk1 k hk hlt
     have hy':=(hM k hk).2
     exact ⟨(a6 k (by omega) h.2 hy').trans ((hb45.block k (by omega)).trans h.1),fun h'=>h.2 (hM2D k (by omega) h')⟩
    ·exact (a6 g3 (by omega) hM3 (by omega)).trans hB35
    ·exact fun h=>hM3 (hM2D g3 (by omega) h)
    ·refine List.nodup_cons.2 ⟨fun h=> ?_,hnd⟩
     have:=(Array.getElem?_eq_some_iff.1 (hDs D h).2.1).1
     omega
    ·intro D' hD'
     rcases List.mem_cons.1 hD' with rfl|hD'
     ·exact ⟨by omega,hdef,fun h=>hMD (.inl h)⟩
     ·obtain ⟨q1,q2,q3⟩:=hDs D' hD'
      have q4:=(Array.getElem?_eq_some_iff.1 q2).1
      exact ⟨q1,(a6 D' (by omega) q3 (by omega)).trans ((hb45.block D' q4).trans q2),fun h=>q3 (hM2D D' q4 h)⟩
    ·show l.length-m-(i+1)<l.length-m-i
     omega
   ·rintro D c pre2 Mi Wi hD ⟨rfl,⟨outs,M2,hjx⟩,a6⟩ hdef
    refine rnT ?_
    refine retMs (n:=W.heap.size) (D::Ds) Tryz.results89 ?_ ?_ (fun w' hx=> .inr ⟨_,_,hJx _ _ _ _ hjx hx⟩) .ret (.inl rfl)
    ·refine List.nodup_cons.2 ⟨fun h=> ?_,hnd⟩
     have:=(Array.getElem?_eq_some_iff.1 (hDs D h).2.1).1
     omega
    ·intro D' hD'
     rcases List.mem_cons.1 hD' with rfl|hD'
     ·exact ⟨by omega,hdef⟩
     ·obtain ⟨q1,q2,q3⟩:=hDs D' hD'
      have q4:=(Array.getElem?_eq_some_iff.1 q2).1
      exact ⟨by omega,(a6 D' (by omega) q3 (by omega)).trans ((hb45.block D' q4).trans q2)⟩
  ·refine rnT ?_
   have hie:i=l.length-m:=by
    have hge': ¬((i:Int)<(l.length:Int)-((m+1:Nat):Int)+1):=hge
    omega
   refine retMs (n:=W.heap.size) Ds Tryz.results89 hnd (fun D' hD'=> ?_) (fun w' hx=> .inl ⟨pre,M1,?_,hJ _ _ _ _ hj hx⟩) .normal (.inr rfl)
   ·obtain ⟨q1,q2,q3⟩:=hDs D' hD'
    exact ⟨by omega,q2⟩
   ·show pre.map (·.2)=setsS l (m+1)
    rw [hpre,setsS_eq,hie]
    have:=setsTo_enough (l:=l) (k:=m) (l.length-m) m (by omega)
    rw [show l.length-m+m=l.length by omega] at this
    exact this.symm
end Go.Proofs.YtffjgpoadfkjlaaGreatDoor
namespace Go.Proofs.YtffjgpoadfkjlaaGreatDoor
open Go.PF Go.RowKit Go.Ord
attribute [local irreducible] TW CW KW DW
theorem RowL.ext {α:Type} {T:Ty α} {w w':World} {e:TypeId} {b n:Nat} {v:Value} {ps:List (List Value×α)} (h:RowL T w e b v ps) (k:ExtF n w w'):RowL T w' e b v ps :=
 ⟨h.1.ext k,fun p hp=>T.wider _ _ _ _ _ (fun q hq=>⟨Nat.lt_of_lt_of_le hq.1 k.size,hq.2⟩) (T.mono _ _ _ _ _ k.kept (h.2.1 p hp)),h.2.2⟩
theorem RowL.kept {α:Type} {T:Ty α} {w w':World} {e:TypeId} {b:Nat} {v:Value} {ps:List (List Value×α)} (h:RowL T w e b v ps) (hs:w.heap.size≤w'.heap.size) (g:Nat) (hg:v.ownBlock≠some g) (hk: ∀k,k<w.heap.size→k≠g→w'.heap[k]?=w.heap[k]?) (ha: ∀p∈ps,T.rep (fun k=>RowF w v k∧k≠g) w p.1 p.2):RowL T w' e b v ps :=
 ⟨h.1.kept fun q hq=>hk q (h.1.lt hq) (fun e=>hg (by rw [←e]; exact hq)),fun p hp=>T.wider _ _ _ _ _ (fun q hq=>⟨Nat.lt_of_lt_of_le hq.1.1 hs,hq.1.2⟩) (T.mono _ _ _ _ _ (Kept.of_blocks fun k hF hlt=>hk k hlt hF.2) (ha p hp)),h.2.2⟩
def RowN {α:Type} (T:Ty α) (w:World) (e:TypeId) (b:Nat) (v:Value) (ps:List (List Value×α)):Prop:=OwnS w e T.n v ps.length (ps.flatMap (·.1))∧(∀p∈ps,T.rep (fun k=>RowF w v k∧b≤k) w p.1 p.2)∧ ∀g,v.ownBlock=some g→b≤g
section
variable {α:Type} {T:Ty α} {w w':World} {e:TypeId} {b:Nat} {v v':Value} {ps:List (List Value×α)}
theorem RowN.rowL (h:RowN T w e b v ps):RowL T w e b v ps:=⟨h.1,fun p hp=>T.wider _ _ _ _ _ (fun _ hk=>hk.1) (h.2.1 p hp),h.2.2⟩
theorem RowN.nil (T:Ty α) (w:World) (e:TypeId) (b:Nat):RowN T w e b (.slice none 0 0) []:=⟨OwnS.nil _ _ _,(fun p hp=>by cases hp),fun g h=>by simp [Value.ownBlock] at h⟩
theorem RowN.ext {n:Nat} (h:RowN T w e b v ps) (k:ExtF n w w'):RowN T w' e b v ps :=
 ⟨h.1.ext k,fun p hp=>T.wider _ _ _ _ _ (fun q hq=>⟨⟨Nat.lt_of_lt_of_le hq.1.1 k.size,hq.1.2⟩,hq.2⟩) (T.mono _ _ _ _ _ k.kept (h.2.1 p hp)),h.2.2⟩
theorem RowN.step (h:RowN T w e b v ps) (hb:Below w.heap.size w w'):RowN T w' e b v ps:=h.ext (n:=0) (.of_below hb)
theorem RowN.kept (h:RowN T w e b v ps) (hs:w.heap.size≤w'.heap.size) (hk: ∀k,b≤k→k<w.heap.size→w'.heap[k]?=w.heap[k]?):RowN T w' e b v ps :=
 ⟨h.1.kept fun q hq=>hk q (h.2.2 q hq) (h.1.lt hq),fun p hp=>T.wider _ _ _ _ _ (fun q hq=>⟨⟨Nat.lt_of_lt_of_le hq.1.1 hs,hq.1.2⟩,hq.2⟩) (T.mono _ _ _ _ _ (Kept.of_blocks fun k hF hlt=>hk k hF.2 hlt) (h.2.1 p hp)),h.2.2⟩
theorem RowN.setCell (h:RowN T w e b v ps) {g i:Nat} (hg:g<b) (u:Value):RowN T (w.setCell ⟨g,i,none⟩ u) e b v ps :=
 h.kept (by simp) fun k hk _=>Below.heap_setCell _ _ _ _ (fun e=>by have e:k=g:=e; omega)
theorem RowN.app {cs:List Value} {x:α} (h:RowN T w e b v ps) (hO:OwnS w' e T.n v' (ps.length+1) (ps.flatMap (·.1)++cs)) (hg:w.grownBy w' v.ownBlock) (hn:v'.ownBlock=v.ownBlock∨v'.ownBlock=some w.heap.size)
  (hr:T.rep (fun k=>RowF w v k∧b≤k) w cs x) (hb:b≤w.heap.size):RowN T w' e b v' (ps++ [(cs,x)]):=by
 have hk:Kept (fun k=>RowF w v k∧b≤k) w w':=Kept.of_blocks fun k hk hlt=>hg.block k hlt (fun e=>hk.1.2 e.symm)
 have hw: ∀k,RowF w v k∧b≤k→RowF w' v' k∧b≤k:=fun k hk=>⟨⟨Nat.lt_of_lt_of_le hk.1.1 hg.size,fun e=>by
  rcases hn with h'|h'
  ·exact hk.1.2 (by rw [←h']; exact e)
  ·rw [h'] at e; cases e; exact absurd hk.1.1 (Nat.lt_irrefl _)⟩,hk.2⟩
 refine ⟨by rw [List.flatMap_append,List.length_append]; simpa using hO,fun p hp=> ?_,fun q hq=> ?_⟩
 ·rcases List.mem_append.1 hp with hp|hp
  ·exact T.wider _ _ _ _ _ hw (T.mono _ _ _ _ _ hk (h.2.1 p hp))
  ·rw [List.mem_singleton] at hp
   subst hp
   exact T.wider _ _ _ _ _ hw (T.mono _ _ _ _ _ hk hr)
 ·rcases hn with h'|h'
  ·exact h.2.2 q (by rw [←h']; exact hq)
  ·rw [h'] at hq; cases hq; exact hb
theorem RowN.sl (h0:0<T.n) (h:RowN T w e b v ps):SL T (fun k=>b≤k∧k<w.heap.size) w v (ps.map (·.2)) :=
 OwnS.toSLp ps (fun p hp=>T.wider _ _ _ _ _ (fun _ hb=>⟨hb.2,hb.1.1⟩) (h.2.1 p hp)) h0 h.1 rfl (fun g hg=>⟨h.2.2 g hg,h.1.lt hg⟩) h.rowL.big
end
noncomputable def worldsS (d:Dist) (l:List Ev) (most:Int):List (List Int):=if dec (WfP d l)=true∧0≤most∧most≤3∧(recsS l).length≤14 then (setsS (recsS l) (min most.toNat (recsS l).length)).filter (fun S=>dec (Poss d (restS l S))) else []
noncomputable def worldsE (d:Dist) (l:List Ev) (most:Int):Int:=if dec (WfP d l)=true∧0≤most∧most≤3 then (if (recsS l).length≤14 then (if worldsS d l most= [] then 280 else 0) else 2) else 1
theorem restS_sub (l:List Ev) (S:List Int):(restS l S).Sublist l:=List.filter_sublist
theorem WfP.rest {d:Dist} {l:List Ev} (h:WfP d l) (S:List Int):Fitted d (restS l S)↔Poss d (restS l S) :=
 ⟨fun h=>h.2,fun hp=>⟨⟨h.wd,by have:=(restS_sub l S).length_le; have:=h.few; omega,fun e he=>h.each e ((restS_sub l S).subset he)⟩,hp⟩⟩
theorem worlds_c {w:World} {dv ev:Value} {d:Dist} {l:List Ev} {most:Int} (hd:SD w dv d) (hl:SE w ev l) (hne: ∀e∈l,e.needs.length≤1000) :
  Gives Tryz.prog 16 #[dv,ev,.int .i64 most] w fun x w'=>Below w.heap.size w w'∧ ∃v,x= .tuple #[v,.int .i64 (worldsE d l most)]∧SL (sliceT intT) (fun k=>k<w'.heap.size) w' v (worldsS d l most):=by
 obtain ⟨A,cap,rfl,hcap⟩:=hd.form
 obtain ⟨B,lcap,rfl,hlcap⟩:=hl.form
 refine gvM (f:=16) ?_
 refine rnT ?_
 refine TW.box rfl rfl rfl rfl ?_
 rintro g3 w1 f1
 refine TW.box rfl rfl rfl rfl ?_
 rintro g4 w2 f2
 refine rnT ?_
 have hb12:=f1.below.step f2.below
 refine TW.ld rfl ((f1.blk.next f2.below).cell 0) ?_
 refine TW.ld rfl (f2.blk.cell 0) ?_
 refine TW.cl rfl (pwell_c (sd_step hd hb12) (se_step hl hb12)) ?_
 rintro y3 w3 ⟨hb3,rfl⟩
 have hb03:=hb12.step hb3
 refine rnT ?_
 refine CW.cond rfl (fun hbad=> ?_) (fun hgood=> ?_)
 ·refine rnT ?_
  refine ret2M0 Tryz.results16 rfl rfl ⟨hb03,.slice none 0 0,?_,?_⟩
  ·unfold worldsE
   rw [if_neg]
   rintro ⟨h1,h2,h3⟩
   rw [h1] at hbad
   simp at hbad
   omega
  ·unfold worldsS
   rw [if_neg]
   ·exact SL.nil _ _ _
   rintro ⟨h1,h2,h3,_⟩
   rw [h1] at hbad
   simp at hbad
   omega
 have hW:WfP d l:=dec_iff.1 (by cases hq:dec (WfP d l)<;>simp_all)
 have hm:0≤most∧most≤3:=by
  rw [dec_pos hW] at hgood
  simp at hgood
  omega
 have hlf:=hW.few
 refine rnT ?_
 refine TW.ld rfl (((f2.blk.next hb3).cell 0)) ?_
 refine TW.cl rfl (recordsOf_c (se_step hl hb03) (by omega) hne) ?_
 rintro y4 w4 ⟨hb4,o4,q4⟩
 have hb04:=hb03.step hb4
 obtain ⟨R4,c4,rfl,hc4,_⟩:=o4.form
 have hrecI: ∀x∈recsS l,I64 x:=fun x hx=>by
  obtain ⟨e,he,hxe⟩:=mem_recsS.1 hx
  obtain ⟨i,hi,hie⟩:=List.getElem_of_mem he
  obtain ⟨ad,cs,_,_,⟨nv,_,_,_,_,hn⟩,_⟩:=hl.at (i:=i) (x:=e) (by rw [←hie]; exact List.getElem?_eq_getElem hi)
  obtain ⟨j,hj,hje⟩:=List.getElem_of_mem hxe
  exact hn.rngI (i:=j) (x:=x) (by rw [←hje]; exact List.getElem?_eq_getElem hj)
 refine rnT ?_
 refine CW.pk [0,1,2,3,4,6,7,8,29] rfl ?_
 refine CW.condP rfl (fun hbig=> ?_) (fun hsmall=> ?_)
 ·refine rnT ?_
  refine ret2M0 Tryz.results16 rfl rfl ⟨hb04,.slice none 0 0,?_,?_⟩
  ·unfold worldsE
   rw [if_pos ⟨dec_pos hW,hm⟩,if_neg (by omega)]
  ·unfold worldsS
   rw [if_neg (by rintro ⟨_,_,_,h⟩; omega)]
   exact SL.nil _ _ _
 have hsm:(recsS l).length≤14:=by omega
 refine rnT ?_
 refine TW.alloc rfl rfl zc30 ?_
 rintro g9 w5 f5
 refine rnT ?_
 refine TW.v V.minI rfl ⟨ct,ct,trivial⟩ (fun _=>trivial) ?_
 have hmin:min most ((recsS l).length:Int)=((min most.toNat (recsS l).length:Nat):Int):=by omega
 rw [hmin]
 refine TW.cl rfl (sets_c) ?_
 rintro y6 w6 ⟨hb6,gs,gl,rfl,hgs,hgl,hgs1,hgl1⟩
 have hb05:=hb04.step f5.below
 have hb06:=hb05.step hb6
 refine rnT ?_
 obtain ⟨n,hn⟩: ∃n,n=min most.toNat (recsS l).length:=⟨_,rfl⟩
 rw [←hn] at hgs
 have hsz4:=hb4.size
 have hsz3:=hb03.size
 have hsz5:=f5.below.size
 have hsz6:=hb6.size
 have hg9:=f5.at_
 have hg9s:=f5.size
 have hsl:SL intT (fun k=>(Value.slice R4 (recsS l).length c4).ownBlock=some k) w6 (.slice R4 (recsS l).length c4) (recsS l):=(OwnS.toInts (o4.below (f5.below.step hb6)) hrecI (fun g hg=>hg) (by omega))
 have hF4: ∀k,(Value.slice R4 (recsS l).length c4).ownBlock=some k→k<w4.heap.size∧w3.heap.size≤k:=fun k hk=>⟨o4.lt hk,q4 k hk⟩
 have hit:=sets_iter n hsl (fun k hk=>by have:=(hF4 k hk).1; omega) (by omega) (by omega) hgs hgl
 have hg3:=f1.at_
 have hg4:=f2.at_
 have hs1:=f1.size
 have hs2:=f2.size
 have hs3:=hb3.size
 have B3:Blk w6 g3 30 [.slice A d.length cap]:=f1.blk.next (f2.below.step (hb3.step (hb4.step (f5.below.step hb6))))
 have B4:Blk w6 g4 31 [.slice B l.length lcap]:=f2.blk.next (hb3.step (hb4.step (f5.below.step hb6)))
 have B9:Blk w6 g9 30 [.slice none 0 0]:=f5.blk.next hb6
 refine CW.rangeW rfl en89 hit rfl (fun _=>rfl)
  (fun pre M W=>Below w.heap.size w W∧w6.heap.size≤W.heap.size∧Blk W g3 30 [.slice A d.length cap]∧Blk W g4 31 [.slice B l.length lcap]∧ ∃vf ps,Blk W g9 30 [vf]∧RowN (sliceT intT) W 37 w6.heap.size vf ps∧ps.map (·.2)=(pre.map (·.2)).filter (fun S=>dec (Poss d (restS l S)))∧M=fun k=>k=g9∨vf.ownBlock=some k)
  (fun c pre M W=>False) (fun k=>k=g9) ?_ ?_ ?_ (fun _ _ _ _ _ h _=>h) ?_ ?_ ?_ ?_
 ·rintro k rfl
  refine ⟨by omega,?_⟩
  rintro (rfl|rfl|h)
  ·omega
  ·omega
  ·have:=hF4 _ h; omega
 ·rintro k (rfl|rfl|h)
  ·exact hgs.lt
  ·exact hgl.lt
  ·have:=hF4 k h; omega
 ·rintro pre M W1 W2 ⟨a1,a2,a3,a4,vf,ps,a5,a6,a7,a8⟩ hx
  exact ⟨(hx.less (by omega)).below a1 (Nat.le_refl _),Nat.le_trans a2 hx.size,a3.ext hx,a4.ext hx,vf,ps,a5.ext hx,a6.ext hx,a7,a8⟩
 ·exact ⟨hb06,Nat.le_refl _,B3,B4,.slice none 0 0,[],B9,RowN.nil _ _ _ _,rfl,by funext k; simp [Value.ownBlock]⟩
 ·rintro D L pre ⟨xv,xl⟩ M W hD hL ⟨a1,a2,a3,a4,vf,ps,a5,a6,a7,rfl⟩ ⟨⟨suf,hsuf⟩,hxs⟩ hMlt hML hMD hrec
  dsimp only at hsuf hxs
  obtain ⟨Ax,cx,rfl,_⟩:=hxs.form
  have hps:ps.length≤3375:=by
   have e1:ps.length=(ps.map (·.2)).length:=by simp
   rw [e1,a7]
   have e2:=List.length_filter_le (fun S=>dec (Poss d (restS l S))) (pre.map (·.2))
   have e3:=setsS_len (recsS l) n
   rw [hsuf] at e3
   simp at e3 e2
   have e4:((recsS l).length+1) ^ n≤15 ^ n:=Nat.pow_le_pow_left (by omega) n
   have e5:15 ^ n≤15 ^ 3:=Nat.pow_le_pow_right (by omega) (by omega)
   simp
   omega
  refine rnT ?_
  refine KW.begin hrec fun W2 hx2 hsz2 hk2 hrec2=> ?_
  have a1':Below w.heap.size w W2:=(hx2.less (by omega)).below a1 (Nat.le_refl _)
  have a3':=a3.ext hx2
  have a4':=a4.ext hx2
  have a5':=a5.ext hx2
  have a6':=a6.ext hx2
  have hxs':=hxs.ext hx2
  refine rnT ?_
  refine CW.draw mixed (by kernel_rfl) ?_
  refine DW.ld rfl (a3'.cell 0) ?_
  refine DW.ld rfl (a4'.cell 0) ?_
  refine rnD ?_
  refine DW.cl (.pr (fun u W=>SE W u (restS l xl))) ?_ rfl (fun _ w' hb'=>rest_c (se_step hl (a1'.step hb')) (hxs'.below hb') (by omega) (fun e he=>by have:=hne e he; omega)) ?_
  ·exact fun _ _ _ hb h=>se_step h hb
  refine DW.callP (.pr fun u _=> ∃v,u= .tuple #[v,.bool (dec (Fitted d (restS l xl)))]) (Ent.mono_pure _) rfl rfl en6 rfl ct (PArgs.cons rfl ct (PArgs.cons rfl ct (PArgs.cons rfl ct PArgs.nil))) (fun _ w' hb' vs hs=> ?_) ?_
  ·obtain ⟨_,u,_,rfl,rfl,hu,rfl⟩:=Sats.three hs
   exact (fit_c (sd_step hd (a1'.step hb')) hu).mono fun x w'' ⟨h1,h2⟩=>⟨h1,h2⟩
  refine DW.moveP rfl rfl rfl ct (Ent.mono_pure _) ?_
  refine DW.extractP (fun _ _=>True) rfl rfl rfl ct (Ent.mono_pure _) (fun u w' ⟨v',h1⟩=>⟨_,v',h1,rfl,trivial⟩) ?_
  refine DW.extractP (fun u _=>u= .bool (dec (Fitted d (restS l xl)))) rfl rfl rfl ct (Ent.mono_pure _) (fun u w' ⟨v',h1⟩=>⟨_,_,h1,rfl,rfl⟩) ?_
  refine DW.assignP rfl rfl rfl ct (Ent.mono_pure _) ?_
  refine DW.assignP rfl rfl rfl ct (Ent.mono_pure _) ?_
  refine DW.nil (DW.finP [9,10,12] rfl fun vs W3 hb3 hs3=>KW.then_ ?_)
  obtain ⟨v9,v10,v12,rfl,h9,h10,h12⟩:=Sats.three hs3
  refine rnT ?_
  refine CW.pk [9,10,12,45] rfl ?_
  cases h9
  cases h10
  obtain rfl:v12=_:=h12
  rw [dec_congr (hW.rest xl)]
  have hL2:L<W2.heap.size:=hrec2.lt
  have rec3:W3.heap[L]?=W2.heap[L]?:=hb3.block L hL2
  have s3:=hb3.size
  have a1'':=a1'.step hb3
  have a5'':=a5'.next hb3
  have a6'':=a6'.step hb3
  have hxs'':=hxs'.below hb3
  have hvlt: ∀q,vf.ownBlock=some q→w6.heap.size≤q∧q<W2.heap.size:=fun q hq=>⟨a6'.2.2 q hq,a6'.1.lt hq⟩
  have hLv:vf.ownBlock≠some L:=fun e=>hML (.inr e)
  have hDv:vf.ownBlock≠some D:=fun e=>hMD (.inr e)
  have hLg:L≠g9:=fun e=>hML (.inl e)
  have hDg:D≠g9:=fun e=>hMD (.inl e)
  refine CW.cond rfl (fun hyes=> ?_) (fun hno=> ?_)
  ·refine CW.region ?_
   refine TW.ld rfl (a5''.cell 0) ?_
   refine rnT ?_
   refine TW.buildSlice 37 _ rfl rfl rfl eo30 (Args.cons rfl ct Args.nil) rfl rfl rfl rfl rfl ?_
   rintro g48 w7 f7
   have o7:=a6''.1.below f7.below
   refine TW.append [.slice Ax xl.length cx] rfl rfl go30 rfl o7 rfl rfl (fun j v hj=>⟨⟨g48,0,none⟩,rfl,f7.blk.fld hj⟩) (fun v hv=>by simp at hv; subst hv; rfl) (by omega) (by omega) ?_
   rintro vf' w8 o8 hg8 hn8
   have s7:=f7.below.size
   have s8:=hg8.size
   have b8:Blk w8 g9 30 [vf]:=Blk.keptO (a5''.next f7.below) hg8 (fun e=>by have:=hvlt _ e; omega)
   obtain ⟨A8,c8,hv8,_⟩:=o8.form
   have h18:vf'.oneCell'=true:=by rw [hv8]; rfl
   refine TW.store1 rfl sz30 rfl rfl (b8.cell 0) (b8.frozen 0) h18 ?_
   refine rnT ?_
   have r8:RowN (sliceT intT) w8 37 w6.heap.size vf' (ps++ [([.slice Ax xl.length cx],xl)]):=by
    refine RowN.app (a6''.step f7.below) o8 hg8 hn8 ⟨_,rfl,?_⟩ (by omega)
    refine ((hxs''.below f7.below).nb intT_nb).wider fun k hk=>⟨⟨hk.2,fun e=>hk.1.2 (.inr e)⟩,hk.1.1⟩
   have r9:=r8.setCell (g:=g9) (i:=0) (by omega) vf'
   have hnew: ∀q,vf'.ownBlock=some q→vf.ownBlock=some q∨q=w7.heap.size:=fun q hq=>by
    rcases hn8 with h|h
    ·exact .inl (by rw [←h]; exact hq)
    ·rw [h] at hq; cases hq; exact .inr rfl
   have rec8:w8.heap[L]?=W2.heap[L]?:=(hg8.block L (by omega) (fun e=>hLv e.symm)).trans ((f7.below.block L (by omega)).trans rec3)
   have kept8: ∀k,k<W.heap.size→ ¬(k=g9∨vf.ownBlock=some k)→k≠L→w8.heap[k]?=W.heap[k]?:=fun k h1 h2 h3 =>
    (hg8.block k (by omega) (fun e=>h2 (.inr e.symm))).trans ((f7.below.block k (by omega)).trans ((hb3.block k (by omega)).trans (hk2 k h3)))
   have hb08:Below w.heap.size w w8:=(a1''.step f7.below).grown hg8 (a1''.step f7.below).size (fun q hq=>by have:=hvlt q hq; omega)
   have b38:Blk w8 g3 30 [.slice A d.length cap]:=Blk.keptO ((a3'.next hb3).next f7.below) hg8 (fun e=>by have:=hvlt _ e; omega)
   have b48:Blk w8 g4 31 [.slice B l.length lcap]:=Blk.keptO ((a4'.next hb3).next f7.below) hg8 (fun e=>by have:=hvlt _ e; omega)
   refine KW.endN (hrec2.kept ((Below.heap_setCell _ _ _ _ (by show L≠g9; exact hLg)).trans rec8)) fun W9 hx9 hsz9 hk9 hrec9=> ?_
   have hs9:W9.heap.size=w8.heap.size:=by rw [hsz9]; simp
   refine ⟨by omega,fun k h1 h2 h3=>(hk9 k h3).trans ((Below.heap_setCell _ _ _ _ (fun e=>h2 (.inl e))).trans (kept8 k h1 h2 h3)),fun _=>⟨fun k=>k=g9∨vf'.ownBlock=some k,⟨⟨(hx9.less (by omega)).below (hb08.setCell (by show w.heap.size≤g9; omega) _) (Nat.le_refl _),by omega,(b38.far (by show g3≠g9; omega) vf').ext hx9,(b48.far (by show g4≠g9; omega) vf').ext hx9,vf',_,(b8.set 0 vf').ext hx9,r9.ext hx9,?_,rfl⟩,?_,?_,hrec9⟩,fun k hk=> ?_⟩,fun h=>by cases h⟩
   ·rw [List.map_append,a7,List.map_append,List.filter_append]
    simp [hyes]
   ·rintro (h|h)
    ·exact hLg h
    ·rcases hnew L h with h|h
     ·exact hLv h
     ·omega
   ·rintro (h|h)
    ·exact hDg h
    ·rcases hnew D h with h|h
     ·exact hDv h
     ·omega
   ·rcases hk with rfl|hk
    ·exact ⟨.inl (.inl rfl),by omega⟩
    ·rcases hnew k hk with h|h
     ·exact ⟨.inl (.inr h),by have:=hvlt k h; omega⟩
     ·refine ⟨.inr (by omega),?_⟩
      have:=o8.lt hk
      omega
  ·refine rnT ?_
   refine KW.endN (hrec2.kept rec3) fun W8 hx8 hsz8 hk8 hrec8=> ?_
   refine ⟨by omega,fun k h1 h2 h3=>(hk8 k h3).trans ((hb3.block k (by omega)).trans (hk2 k h3)),fun _=>⟨fun k=>k=g9∨vf.ownBlock=some k,⟨⟨(hx8.less (by omega)).below a1'' (Nat.le_refl _),by omega,(a3'.next hb3).ext hx8,(a4'.next hb3).ext hx8,vf,ps,a5''.ext hx8,a6''.ext hx8,?_,rfl⟩,hML,hMD,hrec8⟩,fun k hk=> ?_⟩,fun h=>by cases h⟩
   ·rw [a7]
    simp [List.filter_append,hno]
   ·refine ⟨.inl hk,?_⟩
    rcases hk with rfl|hk
    ·omega
    ·have:=hvlt k hk; omega
 ·rintro D xs M W hD hdone ⟨a1,a2,a3,a4,vf,ps,a5,a6,a7,rfl⟩ hMD hdef
  have hdone':xs.map (·.2)=setsS (recsS l) n:=hdone
  obtain ⟨Av,cv,hv⟩:=a6.rowL.form
  subst hv
  have hws:worldsS d l most=ps.map (·.2):=by
   unfold worldsS
   rw [if_pos ⟨dec_pos hW,hm.1,hm.2,hsm⟩,a7,hdone',hn]
  have hDn:D<W.heap.size:=(Array.getElem?_eq_some_iff.1 hdef).1
  have hput:ExtF w6.heap.size W (W.putObj D (.deferred none)):=ExtF.putObj hdef rfl hD
  have hBp:Below w.heap.size w (W.putObj D (.deferred none)):=Below.putCtl a1 (by omega)
  refine KW.blockN (KW.then_ ?_)
  refine rnT ?_
  refine TW.ld rfl (a5.cell 0) ?_
  refine rnT ?_
  refine CW.condP rfl (fun hz=> ?_) (fun hnz=> ?_)
  ·refine rnT ?_
   refine ret2M Tryz.results16 rfl rfl hdef ⟨hBp,.slice none 0 0,?_,?_⟩
   ·unfold worldsE
    rw [if_pos ⟨dec_pos hW,hm⟩,if_pos hsm,if_pos]
    rw [hws,List.map_eq_nil_iff,←List.length_eq_zero_iff]
    omega
   ·rw [hws,show ps= [] from List.length_eq_zero_iff.1 (by omega)]
    exact SL.nil _ _ _
  ·refine rnT ?_
   refine TW.ld rfl (a5.cell 0) ?_
   refine rnT ?_
   refine ret2M Tryz.results16 rfl rfl hdef ⟨hBp,.slice Av ps.length cv,?_,?_⟩
   ·unfold worldsE
    rw [if_pos ⟨dec_pos hW,hm⟩,if_pos hsm,if_neg]
    rw [hws,List.map_eq_nil_iff,←List.length_eq_zero_iff]
    omega
   ·rw [hws]
    exact ((a6.ext hput).sl (by show 0<1; omega)).wider fun _ h=>h.2
 ·rintro D c pre M W hD h
  exact h.elim
end Go.Proofs.YtffjgpoadfkjlaaGreatDoor
namespace Go.Proofs.YtffjgpoadfkjlaaGreatDoor
open Go.PF Go.RowKit Go.Ord
variable {k:Nat}
def Upto {α:Type} (p:α→Prop) (l:List α) (k:Nat):Prop:= ∀(i:Nat) (e:α),i<k→l[i]?=some e→p e
theorem Upto.zero {α:Type} {p:α→Prop} {l:List α}:Upto p l 0:=fun i e hi=>by omega
theorem Upto.succ {α:Type} {p:α→Prop} {l:List α} {x:α} (h:Upto p l k) (hx:l[k]?=some x) (hp:p x):Upto p l (k+1):=fun i e hi he=>by
 rcases Nat.lt_or_ge i k with h'|h'
 ·exact h i e h' he
 ·obtain rfl:i=k:=by omega
  rw [hx] at he; cases he
  exact hp
theorem Upto.all {α:Type} {p:α→Prop} {l:List α} (h:Upto p l k) (hk:l.length≤k): ∀e∈l,p e:=fun e he=>by
 obtain ⟨i,hi,hie⟩:=List.getElem_of_mem he
 exact h i e (by omega) (by rw [←hie]; exact List.getElem?_eq_getElem hi)
theorem getx {α:Type} {l:List α} (h:k<l.length): ∃x,l[k]?=some x∧x∈l:=⟨l[k],List.getElem?_eq_getElem h,List.getElem_mem h⟩
abbrev SI (w:World) (v:Value) (l:List Int):Prop:=SL intT (fun k=>k<w.heap.size) w v l
end Go.Proofs.YtffjgpoadfkjlaaGreatDoor
namespace Go.Proofs.YtffjgpoadfkjlaaGreatDoor
open Go.PF Go.RowKit Go.Ord
attribute [local irreducible] TW CW KW DW
variable {w:World} {v u:Value} {d:Dist} {l:List Ev}
structure FewD (d:Dist) (l:List Ev) (o m:Int):Prop where
 d1:(d.length:Int)≤o
 l1:(l.length:Int)≤m
 r1: ∀r∈d,(r.length:Int)≤o
theorem rfew27_c {F G:Nat→Prop} {o m:Int} (hd:SL (sliceT intT) F w v d) (hl:SL evT G w u l):Gives Tryz.prog 92 #[v,u,.int .i64 o,.int .i64 m] w fun x w'=>Below w.heap.size w w'∧x= .bool (dec (FewD d l o m)):=by
 obtain ⟨A,cap,rfl,_⟩:=hd.form
 obtain ⟨B,bcap,rfl,_⟩:=hl.form
 have hmax:d.length≤9223372036854775807:=hd.len.2.2
 refine gv (f:=92) ?_
 refine rnT ?_
 refine CW.cond rfl (fun hbad=> ?_) (fun hgood=> ?_)
 ·refine rnT ?_
  refine rt1 rfl ⟨Below.refl _ _,by rw [dec_neg (fun h=>by have:=h.d1; have:=h.l1; simp at hbad; omega)]⟩
 have hg:(d.length:Int)≤o∧(l.length:Int)≤m:=by simp at hgood; omega
 refine rnT ?_
 refine CW.lp [0,2] (fun k:Nat=> [(9,none,.int .i64 (k:Int))])
  (fun k W=>k≤d.length∧W=w∧Upto (fun r:List Int=>(r.length:Int)≤o) d k) (fun k=>d.length-k) 0 ⟨by omega,rfl,Upto.zero⟩ ?_
 rintro k W ⟨hk,rfl,hup⟩
 refine rnT ?_
 refine CW.pk [0,2,9,23] rfl ?_
 refine CW.condP rfl (fun hlt=> ?_) (fun hge=> ?_)
 ·obtain ⟨x,hx,hxm⟩:=getx (l:=d) (k:=k) (by omega)
  obtain ⟨ad,rfl⟩:=hd.addr (by omega)
  obtain ⟨rv,hcell,hrow⟩:=hd.row hx
  obtain ⟨C,ccap,rfl,_⟩:=hrow.form
  refine rnT ?_
  refine TW.ld rfl hcell ?_
  refine rnT ?_
  refine CW.condP rfl (fun he=> ?_) (fun hn=> ?_)
  ·refine rnT ?_
   refine rt1 rfl ⟨Below.refl _ _,by rw [dec_neg (fun h=>by have:=h.r1 x hxm; omega)]⟩
  refine rnT ?_
  refine KW.rd (k+1) ⟨by omega,rfl,hup.succ hx (by omega)⟩
 ·refine rnT ?_
  refine rt1 rfl ⟨Below.refl _ _,by rw [dec_pos ⟨hg.1,hg.2,hup.all (by omega)⟩]⟩
structure FewP (d:Dist) (l:List Ev):Prop where
 fd:FewD d l 5 8
 nd: ∀e∈l,e.needs.length≤6
theorem rfew28_c {F G:Nat→Prop} (hd:SL (sliceT intT) F w v d) (hl:SL evT G w u l):Gives Tryz.prog 42 #[v,u] w fun x w'=>Below w.heap.size w w'∧x= .bool (dec (FewP d l)):=by
 obtain ⟨A,cap,rfl,_⟩:=hd.form
 obtain ⟨B,bcap,rfl,_⟩:=hl.form
 have hmax:l.length≤9223372036854775807:=hl.len.2.2
 refine gv (f:=42) ?_
 refine rnT ?_
 refine CW.lp [0,1] (fun k:Nat=> [(5,none,.int .i64 (k:Int))])
  (fun k W=>k≤l.length∧W=w∧Upto (fun e:Ev=>e.needs.length≤6) l k) (fun k=>l.length-k) 0 ⟨by omega,rfl,Upto.zero⟩ ?_
 rintro k W ⟨hk,rfl,hup⟩
 refine rnT ?_
 refine CW.condP rfl (fun hlt=> ?_) (fun hge=> ?_)
 ·obtain ⟨x,hx,hxm⟩:=getx (l:=l) (k:=k) (by omega)
  obtain ⟨ad,rfl⟩:=hl.addr (by omega)
  obtain ⟨nx,cx,_,_,_,hnx⟩:=SE.get hl hx
  obtain ⟨C,ccap,rfl,_⟩:=hnx.form
  refine rnT ?_
  refine TW.ld rfl (cx 3 _ rfl) ?_
  refine rnT ?_
  refine CW.pk [0,1,5,18] rfl ?_
  refine CW.condP rfl (fun he=> ?_) (fun hn=> ?_)
  ·refine rnT ?_
   refine rt1 rfl ⟨Below.refl _ _,by rw [dec_neg (fun h=>by have:=h.nd x hxm; omega)]⟩
  refine rnT ?_
  refine KW.rd (k+1) ⟨by omega,rfl,hup.succ hx (by omega)⟩
 ·refine rnT ?_
  refine TW.cl rfl (rfew27_c hd hl) ?_
  rintro y w1 ⟨hb1,rfl⟩
  refine rnT ?_
  refine rt1 rfl ⟨hb1,by rw [dec_congr (show FewD d l 5 8↔FewP d l from ⟨fun h=>⟨h,hup.all (by omega)⟩,fun h=>h.fd⟩)]⟩
theorem rvalid27_c (hd:SD w v d) (hl:SE w u l):Gives Tryz.prog 44 #[v,u,.slice none 0 0] w fun x w'=>Below w.heap.size w w'∧x= .bool (dec (WfE d l)):=by
 obtain ⟨A,cap,rfl,_⟩:=hd.form
 obtain ⟨B,bcap,rfl,_⟩:=hl.form
 have hmax:l.length≤9223372036854775807:=hl.len.2.2
 refine gv (f:=44) ?_
 refine rnT ?_
 refine TW.cl rfl (rdistances_c hd) ?_
 rintro y w1 ⟨hb1,rfl⟩
 refine rnT ?_
 refine CW.pk [0,1,2,6,18] rfl ?_
 refine CW.cond rfl (fun hbad=> ?_) (fun hgood=> ?_)
 ·refine rnT ?_
  refine rt1 rfl ⟨hb1,by rw [dec_neg (fun h=>by simp [dec_pos h.wd] at hbad; have:=h.few; omega)]⟩
 have hwd:WfD d:=dec_iff.1 (by cases hq:dec (WfD d)<;>simp_all)
 have hfew:l.length≤16:=by simp [dec_pos hwd] at hgood; omega
 refine rnT ?_
 refine TW.makeSlice rfl rfl (zero1_of go92 ze4 rfl) rfl rfl (by omega) (by omega) ?_
 rintro g2 w2 f2
 refine rnT ?_
 have hb02:=hb1.step f2.below
 refine CW.lp [0,1,2] (fun k:Nat=> [(8,none,.int .i64 (k:Int))])
  (fun k W=>k≤l.length∧W=w2∧Upto (EOK d) l k) (fun k=>l.length-k) 0 ⟨by omega,rfl,Upto.zero⟩ ?_
 rintro k W ⟨hk,rfl,hup⟩
 have hl2:=hl.below hb02
 refine rnT ?_
 refine CW.condP rfl (fun hlt=> ?_) (fun hge=> ?_)
 ·obtain ⟨x,hx,hxm⟩:=getx (l:=l) (k:=k) (by omega)
  obtain ⟨ad,rfl⟩:=hl2.addr (by omega)
  obtain ⟨nx,cx,_,_,_,hnx⟩:=SE.get hl2 hx
  refine rnT ?_
  refine TW.ld rfl (cx 0 _ rfl) ?_
  refine rnT ?_
  refine TW.ld rfl (cx 0 _ rfl) ?_
  refine rnT ?_
  refine CW.pk [0,1,2,8,43] rfl ?_
  refine CW.cond rfl (fun he=> ?_) (fun hn=> ?_)
  ·refine rnT ?_
   refine rt1 rfl ⟨hb02,by rw [dec_neg (fun h=>by have h1:=(h.each x hxm).o1; have h2:=(h.each x hxm).o2; simp at he; omega)]⟩
  refine rnT ?_
  refine KW.rd (k+1) ⟨by omega,rfl,hup.succ hx (by simp at hn; exact ⟨by omega,by omega⟩)⟩
 ·refine rnT ?_
  refine CW.loopS (fun _:Unit=> [(2,none,.slice none 0 0),(9,none,.int .i64 0)]) (fun _ W'=>W'=W) (fun k=>0) () [2,9] rfl rfl ?_
  rintro _ W' rfl
  refine rnT ?_
  refine CW.condP rfl (fun hlt2=> ?_) (fun hge2=> ?_)
  ·exfalso
   omega
  ·refine rnT ?_
   refine rt1 rfl ⟨hb02,by rw [dec_pos ⟨hwd,hfew,hup.all (by omega)⟩]⟩
def lexS:List Int→List Int→Bool
 | x::a,y::b=>if x=y then lexS a b else decide (x<y)
 | _,_=>false
end Go.Proofs.YtffjgpoadfkjlaaGreatDoor
namespace Go.Proofs.YtffjgpoadfkjlaaGreatDoor
open Go.PF Go.RowKit Go.Ord
variable {d:Dist} {l l' r:List Ev} {most t:Int} {b:List Int}
theorem sub_extend {α:Type}: ∀ {l t:List α},t.Sublist l→ ∀n,t.length≤n→n≤l.length→ ∃b,t.Sublist b∧b.Sublist l∧b.length=n
 | [],t,h,n,h1,h2=>⟨[],by simpa using h,List.Sublist.refl _,by simp at h2; simp [h2]⟩
 | x::l,t,h,n,h1,h2=>by
  cases h with
  | cons _ h =>
   by_cases hn:n≤l.length
   ·obtain ⟨b,q1,q2,q3⟩:=sub_extend h n h1 hn
    exact ⟨b,q1,q2.cons x,q3⟩
   ·simp at h2
    exact ⟨x::l,h.cons x,List.Sublist.refl _,by simp; omega⟩
  | cons_cons _ h =>
   rename_i t'
   simp at h1 h2
   obtain ⟨b,q1,q2,q3⟩:=sub_extend h (n-1) (by omega) (by omega)
   exact ⟨x::b,q1.cons_cons x,q2.cons_cons x,by simp; omega⟩
theorem gone_iff {S:List Int} {e:Ev}:gone S e=true↔ ∃r∈e.needs,r∈S:=by
 unfold gone
 simp
theorem rest_less {S T:List Int} (h: ∀e∈l,gone S e=true→gone T e=true):(restS l T).Sublist (restS l S):=by
 unfold restS
 have e1:l.filter (fun e=> !gone T e)=(l.filter (fun e=> !gone S e)).filter (fun e=> !gone T e):=by
  rw [List.filter_filter]
  refine List.filter_congr fun e he=> ?_
  cases h1:gone S e with
  | false=>simp
  | true=>simp [h e he h1]
 rw [e1]
 exact List.filter_sublist
structure WOK (d:Dist) (l:List Ev) (most:Int):Prop where
 wf:WfP d l
 m0:0≤most
 m3:most≤3
 rl:(recsS l).length≤14
theorem WOK.eq (h:WOK d l most):worldsS d l most=(setsS (recsS l) (min most.toNat (recsS l).length)).filter (fun S=>dec (Poss d (restS l S))):=by
 unfold worldsS
 rw [if_pos ⟨dec_pos h.wf,h.m0,h.m3,h.rl⟩]
theorem WOK.mem (h:WOK d l most):b∈worldsS d l most↔b.Sublist (recsS l)∧b.length=min most.toNat (recsS l).length∧Poss d (restS l b):=by
 rw [h.eq,List.mem_filter,mem_setsS,dec_iff,and_assoc]
theorem WOK.err (h:WOK d l most):worldsE d l most=if worldsS d l most= [] then 280 else 0:=by
 unfold worldsE
 rw [if_pos ⟨dec_pos h.wf,h.m0,h.m3⟩,if_pos h.rl]
theorem WOK.ok (h:WOK d l most) (hb:b∈worldsS d l most):worldsE d l most=0:=by
 rw [h.err,if_neg (fun e=>by rw [e] at hb; cases hb)]
theorem WOK.has (h:WOK d l most) {s:List Int} (hs:(s.length:Int)≤most) (hp:Poss d (restS l s)): ∃b∈worldsS d l most,∀x∈s.filter (fun y=>decide (y∈recsS l)),x∈b:=by
 have hm:=h.m0
 have hnd:(recsS l).Nodup:=(recsS_inc l).nodup
 have hsub:((recsS l).filter fun y=>decide (y∈s)).Sublist (recsS l):=List.filter_sublist
 have hle:((recsS l).filter fun y=>decide (y∈s)).length≤s.length:=nodup_len (hnd.sublist hsub) (fun x hx=>by
  have:=(List.mem_filter.1 hx).2
  simpa using this)
 have hle2:=hsub.length_le
 obtain ⟨b,q1,q2,q3⟩:=sub_extend hsub (min most.toNat (recsS l).length) (by omega) (by omega)
 have hin: ∀x∈s,x∈recsS l→x∈b:=fun x h1 h2=>q1.subset (List.mem_filter.2 ⟨h2,by simpa using h1⟩)
 refine ⟨b,h.mem.2 ⟨q2,q3,hp.sub (rest_less fun e he hg=> ?_)⟩,fun x hx=> ?_⟩
 ·obtain ⟨r,hr,hrs⟩:=gone_iff.1 hg
  exact gone_iff.2 ⟨r,hr,hin r hrs (mem_recsS.2 ⟨e,he,hr⟩)⟩
 ·obtain ⟨h1,h2⟩:=List.mem_filter.1 hx
  exact hin x h1 (by simpa using h2)
theorem WfP.sub (h:WfP d l) (hs:l'.Sublist l):WfP d l' :=
 ⟨h.wd,by have:=hs.length_le; have:=h.few; omega,fun e he=>h.each e (hs.subset he),fun e he=>h.pos e (hs.subset he)⟩
theorem recs_sub (hs:l'.Sublist l): ∀x∈recsS l',x∈recsS l:=fun x hx=>by
 obtain ⟨e,he,hxe⟩:=mem_recsS.1 hx
 exact mem_recsS.2 ⟨e,hs.subset he,hxe⟩
theorem WOK.sub {d:Dist} {l l':List Ev} {most:Int} (h:WOK d l most) (hs:l'.Sublist l):WOK d l' most :=
 ⟨h.wf.sub hs,h.m0,h.m3,by have:=nodup_len (recsS_inc l').nodup (recs_sub hs); have:=h.rl; omega⟩
theorem WOK.len (h:WOK d l most) (hb:b∈worldsS d l most):(b.length:Int)≤most:=by
 have:=(h.mem.1 hb).2.1
 have:=h.m0
 omega
theorem WOK.more (h:WOK d l most) (h3:most<3) (hb:b∈worldsS d l most): ∃c∈worldsS d l (most+1),∀x∈b,x∈c:=by
 have hw:WOK d l (most+1):=⟨h.wf,by have:=h.m0; omega,by omega,h.rl⟩
 obtain ⟨q1,q2,q3⟩:=h.mem.1 hb
 obtain ⟨c,hc,hin⟩:=hw.has (s:=b) (by have:=h.len hb; omega) q3
 exact ⟨c,hc,fun x hx=>hin x (List.mem_filter.2 ⟨hx,by simpa using q1.subset hx⟩)⟩
theorem WOK.inc (h:WOK d l most) (hb:b∈worldsS d l most):Inc b:=(recsS_inc l).sublist (h.mem.1 hb).1
theorem wfe_at {o f f' t':Int} (h:WfE d (r++ [vis o f t])):WfE d (r++ [vis o f' t']) :=
 ⟨h.wd,by have:=h.few; simpa using this,fun e he=>by
  rcases List.mem_append.1 he with he|he
  ·exact h.each e (List.mem_append_left _ he)
  ·rw [List.mem_singleton] at he
   subst he
   have:=h.each (vis o f t) (by simp)
   exact ⟨this.o1,this.o2⟩⟩
def WfV (d:Dist) (r:List Ev) (o:Int):Prop:=WfE d (r++ [vis o 0 0])
theorem at_iff {o f:Int}:(Knd.at o f t).b d r=true↔WfV d r o∧ ∃τ,f≤τ∧τ≤t∧PV d r o τ:=by
 show dec (Fitted d (r++ [vis o f t]))=true↔_
 rw [dec_iff]
 unfold Fitted
 rw [poss_vis]
 exact ⟨fun h=>⟨wfe_at h.1,h.2⟩,fun h=>⟨wfe_at h.1,h.2⟩⟩
theorem bool_ext {a b:Bool} (h:a=true↔b=true):a=b:=by cases a<;>cases b<;>simp_all
theorem WfE.sub (h:WfE d l) (hs:l'.Sublist l):WfE d l':=⟨h.wd,Nat.le_trans hs.length_le h.few,fun e he=>h.each e (hs.subset he)⟩
theorem WfE.perm (h:WfE d l) (hp:l.Perm l'):WfE d l':=⟨h.wd,by rw [←hp.length_eq]; exact h.few,fun e he=>h.each e (hp.mem_iff.2 he)⟩
theorem mem_spots {N:Net} {rs:List (List Ev)} {s:Spt}:s∈spotsS N d rs t↔ ∃k,(s,k)∈plsS N t∧canB d rs k=true:=by
 unfold spotsS
 rw [List.mem_map]
 constructor
 ·rintro ⟨p,hp,rfl⟩
  obtain ⟨h1,h2⟩:=List.mem_filter.1 hp
  exact ⟨p.2,h1,h2⟩
 ·rintro ⟨k,h1,h2⟩
  exact ⟨(s,k),List.mem_filter.2 ⟨h1,h2⟩,rfl⟩
theorem mem_linPl {ls:List Li} {p:Spt×Knd}:p∈linPl ls t↔ ∃(i:Nat) (l:Li),ls[i]?=some l∧p=((-1,(i:Int)),.on l t):=by
 unfold linPl
 rw [List.mem_mapIdx]
 constructor
 ·rintro ⟨i,hi,rfl⟩; exact ⟨i,ls[i],List.getElem?_eq_getElem hi,rfl⟩
 ·rintro ⟨i,l,hl,rfl⟩
  obtain ⟨hi,he⟩:=List.getElem?_eq_some_iff.1 hl
  exact ⟨i,hi,by rw [he]⟩
structure SpOK (N:Net) (s:Spt):Prop where
 is:(s.2= -1∧0≤s.1∧s.1<N.offs.length)∨(s.1= -1∧0≤s.2∧s.2<N.lines.length)
def SpLt (a b:Spt):Prop:=(b.2= -1∧a.2= -1∧a.1<b.1)∨(b.1= -1∧0≤b.2∧a.2<b.2)
theorem poss_eq {N:Net} {ws:List (List Int)} (h:PossOK N d l ws.length t):possS N d l ws t=spotsS N d (restsS l ws) t:=by
 unfold possS
 rw [if_pos (dec_pos h)]
theorem on_iff {l:Li}:(Knd.on l t).b d r=true↔WfE d (r++ [lvE l t,arE l t])∧PossJ d r (lvE l t) (arE l t) l.trav:=by
 show dec _=true↔_
 rw [dec_iff]
 exact Iff.rfl
end Go.Proofs.YtffjgpoadfkjlaaGreatDoor
namespace Go.Proofs.YtffjgpoadfkjlaaGreatDoor
open Go.PF Go.RowKit Go.Ord
attribute [local irreducible] TW CW KW DW
variable {N:Net}
theorem lines_small (h:SoundOK keys11 N) {l:Li} (hl:l∈N.lines):I64 l.frm∧I64 l.to∧0≤l.trav∧l.trav≤1000000:=by
 have ho:=h.cons.lines.good l hl
 have hf:=h.cons.offs.few
 have h1:=ho.f1
 have h2:=ho.f2
 have h3:=ho.t1
 have h4:=ho.t2
 have h5:=ho.r1
 have h6:=ho.r2
 exact ⟨⟨by omega,by omega⟩,⟨by omega,by omega⟩,by omega,by omega⟩
theorem pls_knd {t:Int} (h:SoundOK keys11 N) (h0:0≤t) (h1:t≤1000000): ∀p∈plsS N t,p.2.OK∧I64 p.1.1∧I64 p.1.2:=fun p hp=>by
 have hf:=h.cons.offs.few
 have hl:=h.cons.lines.few
 rcases List.mem_append.1 hp with hp|hp
 ·unfold offPl at hp
  obtain ⟨i,hi,rfl⟩:=List.mem_map.1 hp
  have:=List.mem_range.1 hi
  have hI:I64 (i:Int):=⟨by omega,by omega⟩
  exact ⟨⟨hI,⟨by omega,by omega⟩,⟨by omega,by omega⟩⟩,hI,⟨by show (-9223372036854775808:Int)≤ -1; omega,by show (-1:Int)≤9223372036854775807; omega⟩⟩
 ·unfold linPl at hp
  obtain ⟨i,hi,rfl⟩:=List.mem_mapIdx.1 hp
  obtain ⟨q1,q2,q3,q4⟩:=lines_small h (List.getElem_mem hi)
  exact ⟨⟨q1,q2,q3,q4,h0,h1⟩,⟨by show (-9223372036854775808:Int)≤ -1; omega,by show (-1:Int)≤9223372036854775807; omega⟩,⟨by show -9223372036854775808≤(i:Int); omega,by show (i:Int)≤_; omega⟩⟩
theorem rests_len {d:Dist} {l:List Ev} {nw:Nat} (hf:FitW d l nw) (ws:List (List Int)): ∀r∈restsS l ws,r.length≤14:=fun r hr=>by
 obtain ⟨S,_,rfl⟩:=List.mem_map.1 hr
 exact Nat.le_trans (restS_sub l S).length_le hf.few
theorem possible_c {w:World} {v:NV} {dv lv wv:Value} {d:Dist} {l:List Ev} {ws:List (List Int)} {t:Int} (ht:Tabs w) (hN:NetAt w v N) (hd:SD w dv d) (hl:SE w lv l) (hS:SD w wv ws) (hne: ∀e∈l,e.needs.length≤1000000) :
  Gives Tryz.prog 8 #[.agg v.cells.toArray,dv,lv,wv,.int .i64 t] w fun x w'=>Below w.heap.size w w'∧SPs w' x (possS N d l ws t):=by
 have hform:=NetIn.form hN
 obtain ⟨A,cap,rfl,hcap⟩:=hd.form
 obtain ⟨B,lcap,rfl,hlcap⟩:=hl.form
 obtain ⟨X,xcap,rfl,_⟩:=hS.form
 have hv: ∃A4 c4,v.f= .slice A4 N.offs.length c4:=hform.f
 obtain ⟨vc,vn,vo,vf,vl,vk⟩:=v
 obtain ⟨A4,c4,e4⟩:=hv
 dsimp only at e4
 subst e4
 refine gvM (f:=8) ?_
 refine rnT ?_
 refine TW.box rfl rfl rfl rfl ?_
 rintro g5 w1 f1
 refine TW.box rfl rfl rfl rfl ?_
 rintro g6 w2 f2
 refine rnT ?_
 have b2:=f1.below.step f2.below
 have hB5:=f1.blk.next f2.below
 have hB6:=f2.blk
 refine TW.ldS rfl (fun _ _ hv=>hB5.fld hv) ?_
 refine TW.cl rfl (check_c (ht.below b2) (net_step hN b2)) ?_
 rintro y3 w3 ⟨c3,C3,n3,k3,rfl,hn3⟩
 have b3:=b2.step c3
 have hB53:=hB5.next c3
 have hB63:=hB6.next c3
 refine rnT ?_
 refine TW.ld rfl (hB63.cell 0) ?_
 refine rnT ?_
 refine TW.callF (cap:= []) rfl rfl en28 rfl ct (Args.cons rfl id (Args.cons rfl id (Args.cons rfl id Args.nil))) (fun _=>fitting_c (sd_step hd b3) (se_step hl b3)) ?_
 rintro w4 c4'
 refine rnT ?_
 have b4:=b3.step c4'
 have hB54:=hB53.next c4'
 have hB64:=hB63.next c4'
 refine TW.ld rfl (hB64.cell 0) ?_
 refine rnT ?_
 refine TW.ld rfl (hB54.fld rfl) ?_
 refine rnT ?_
 refine CW.pk [0,1,2,3,4,5,6,10,33] rfl ?_
 have hbad': ∀ {p:Prop},(p→PossOK N d l ws.length t)→True:=fun _=>trivial
 refine CW.cond rfl (fun hbad=> ?_) (fun hgood=> ?_)
 ·refine rnT ?_
  refine ret1M0 Tryz.results8 rfl ⟨b4,?_⟩
  have hno: ¬PossOK N d l ws.length t:=fun h=>by
   have e0:n3=0:=hn3.2 h.sound
   have e1:=h.same
   rw [dec_pos h.fit] at hbad
   simp [e0,e1] at hbad
  unfold possS
  rw [dec_neg hno]
  exact SL.nil _ _ _
 have hg:n3=0∧FitW d l ws.length∧d.length=N.offs.length:=by
  by_cases hfw:FitW d l ws.length
  ·rw [dec_pos hfw] at hgood
   simp at hgood
   exact ⟨by omega,hfw,by omega⟩
  ·rw [dec_neg hfw] at hgood
   simp at hgood
 obtain ⟨e0,hfw,hsame⟩:=hg
 have hsnd:=hn3.1 e0
 refine rnT ?_
 refine CW.cond rfl (fun hbt=> ?_) (fun hgt=> ?_)
 ·refine rnT ?_
  refine ret1M0 Tryz.results8 rfl ⟨b4,?_⟩
  have hno: ¬PossOK N d l ws.length t:=fun h=>by
   have e0:=h.t0
   have e1:=h.t1
   simp at hbt
   omega
  unfold possS
  rw [dec_neg hno]
  exact SL.nil _ _ _
 have ht01:0≤t∧t≤1000000:=by simp at hgt; omega
 have hok:PossOK N d l ws.length t:=⟨hsnd,hfw,hsame,ht01.1,ht01.2⟩
 have hkn:=pls_knd hsnd ht01.1 ht01.2
 have hoff:=hsnd.cons.offs.few
 have hlin:=hsnd.cons.lines.few
 have hwl:=hfw.worlds
 have hll:=hfw.few
 refine rnT ?_
 refine TW.alloc rfl rfl zc46 ?_
 rintro g11 w5 f5
 refine rnT ?_
 have b5:=b4.step f5.below
 refine TW.cl rfl (restsOf_c (se_step hl b5) (sd_step hS b5) (by omega) hne (by omega)) ?_
 rintro rv w6 ⟨c6,hR6⟩
 obtain ⟨R6,rc6,rfl,_⟩:=hR6.form
 have b6:=b5.step c6
 refine TW.newVar1 rfl zc84 rfl sz84 rfl ?_
 rintro g12 w7 f7
 refine rnT ?_
 refine TW.pk [0,1,2,3,4,5,6,10,11,12] rfl ?_
 have b7:=b6.step f7.below
 have hB57:=hB54.next (f5.below.step (c6.step f7.below))
 refine TW.ldS rfl (fun _ _ hv=>hB57.fld hv) ?_
 refine rnT ?_
 refine TW.cl rfl (places_c) ?_
 rintro y8 w8 ⟨c8,gN,gT,rfl,hBN,hBT,hgN,hgT⟩
 have b8:=b7.step c8
 refine rnT ?_
 have s5:=f5.below.size
 have s4:=b4.size
 have s6:=c6.size
 have s7:=f7.below.size
 have s8:=c8.size
 have q5:=f5.at_
 have q5':=f5.size
 have q7:=f7.at_
 have q7':=f7.size
 have hB6':Blk w8 g6 30 [.slice A d.length cap]:=hB64.next (f5.below.step (c6.step (f7.below.step c8)))
 have hB11:Blk w8 g11 46 [.slice none 0 0]:=f5.blk.next (c6.step (f7.below.step c8))
 have hB12:Blk w8 g12 84 [.slice R6 (restsS l ws).length rc6]:=f7.blk.next c8
 have q6:g6<w4.heap.size:=hB64.lt
 have q5g:w.heap.size≤g6:=by have:=f2.at_; have:=f1.below.size; omega
 have hR8:SL (sliceT evT) (fun k=>w5.heap.size≤k∧k<w6.heap.size) w8 (.slice R6 (restsS l ws).length rc6) (restsS l ws):=hR6.below (f7.below.step c8)
 have hN8:NetIn (fun k=>k<w.heap.size) w8 ⟨vc,vn,vo,.slice A4 N.offs.length c4,vl,vk⟩ N:=NetIn.below hN b8
 have hit:=places_iter hN8 (fun k hk=>by omega) hBN hBT ⟨by omega,by omega⟩
 refine CW.rangeW rfl en54 hit rfl (fun _=>rfl)
  (fun pre M W=>Below w.heap.size w W∧w8.heap.size≤W.heap.size∧Blk W g6 30 [.slice A d.length cap]∧Blk W g12 84 [.slice R6 (restsS l ws).length rc6]∧SL (sliceT evT) (fun k=>w5.heap.size≤k∧k<w6.heap.size) W (.slice R6 (restsS l ws).length rc6) (restsS l ws)∧ ∃vf ps,Blk W g11 46 [vf]∧RowN sptT W 49 w8.heap.size vf ps∧ps.map (·.2)=((pre.map (·.2)).filter (fun p=>canB d (restsS l ws) p.2)).map (·.1)∧M=fun k=>k=g11∨vf.ownBlock=some k)
  (fun c pre M W=>False) (fun k=>k=g11) ?_ ?_ ?_ (fun _ _ _ _ _ h _=>h) ?_ ?_ ?_ ?_
 ·rintro k rfl
  refine ⟨by omega,?_⟩
  rintro (rfl|rfl|h)
  ·omega
  ·omega
  ·omega
 ·rintro k (rfl|rfl|h)
  ·exact hBN.lt
  ·exact hBT.lt
  ·omega
 ·rintro pre M W1 W2 ⟨a1,a2,a3,a4,aR,vf,ps,a5,a6,a7,a8⟩ hx
  exact ⟨(hx.less (by omega)).below a1 (Nat.le_refl _),Nat.le_trans a2 hx.size,a3.ext hx,a4.ext hx,aR.ext hx,vf,ps,a5.ext hx,a6.ext hx,a7,a8⟩
 ·exact ⟨b8,Nat.le_refl _,hB6',hB12,hR8,.slice none 0 0,[],hB11,RowN.nil _ _ _ _,rfl,by funext k; simp [Value.ownBlock]⟩
 ·rintro D L pre ⟨fv,s,K⟩ M W hD hL ⟨a1,a2,a3,a4,aR,vf,ps,a5,a6,a7,rfl⟩ ⟨hp1,hp2,bF,hfm⟩ hMlt hML hMD hrec
  dsimp only at hp1 hp2 hfm
  have hpsl:ps.length≤2000:=by
   have e1:ps.length=(ps.map (·.2)).length:=by simp
   rw [e1,a7,List.length_map]
   have e2:=List.length_filter_le (fun p=>canB d (restsS l ws) p.2) (pre.map (·.2))
   have e3:pre.length<(plsS N t).length:=(List.getElem?_eq_some_iff.1 hp2).1
   rw [plsS_len] at e3
   rw [List.length_map] at e2
   omega
  obtain ⟨hKI,hs1,hs2⟩:=hkn _ (List.mem_of_getElem? hp2)
  dsimp only at hKI hs1 hs2
  refine rnT ?_
  refine TW.newVar rfl zc49 rfl sz49 rfl rfl ?_
  rintro g13 w9 f9
  refine rnT ?_
  refine KW.begin (hrec.kept (f9.below.block L hrec.lt)) fun W2 hx2 hsz2 hk2 hrec2=> ?_
  have q13:=f9.at_
  have q13':=f9.size
  have hWW2:ExtF 0 W W2:=(ExtF.of_below f9.below).trans (hx2.less (Nat.zero_le _))
  have a1':Below w.heap.size w W2:=(hx2.less (by omega)).below (a1.step f9.below) (Nat.le_refl _)
  have a3':=a3.ext hWW2
  have a4':=a4.ext hWW2
  have aR':=aR.ext hWW2
  have a5':=a5.ext hWW2
  have a6':=a6.ext hWW2
  have hB13:=f9.blk.ext hx2
  have hLW:L<W.heap.size:=hrec.lt
  have kW2: ∀k,k<W.heap.size→k≠L→W2.heap[k]?=W.heap[k]?:=fun k h1 h2=>(hk2 k h2).trans (f9.below.block k h1)
  obtain ⟨kf,caps,rfl,hen,hfo⟩:=(hfm.ext hWW2).ok hKI
  refine rnT ?_
  refine TW.ld rfl (a3'.cell 0) ?_
  refine TW.ld rfl (a4'.cell 0) ?_
  refine rnT ?_
  refine TW.cl rfl (can_c (sd_step hd a1') (aR'.wider fun q hq=>by omega) hen hfo hKI (rests_len hfw ws)) ?_
  rintro y3 W3 ⟨hb3,rfl⟩
  refine rnT ?_
  have hL2:L<W2.heap.size:=hrec2.lt
  have rec3:W3.heap[L]?=W2.heap[L]?:=hb3.block L hL2
  have s3:=hb3.size
  have a1'':=a1'.step hb3
  have a5'':=a5'.next hb3
  have a6'':=a6'.step hb3
  have hB13':=hB13.next hb3
  have hvlt: ∀q,vf.ownBlock=some q→w8.heap.size≤q∧q<W.heap.size:=fun q hq=>⟨a6.2.2 q hq,a6.1.lt hq⟩
  have hLv:vf.ownBlock≠some L:=fun e=>hML (.inr e)
  have hDv:vf.ownBlock≠some D:=fun e=>hMD (.inr e)
  have hLg:L≠g11:=fun e=>hML (.inl e)
  have hDg:D≠g11:=fun e=>hMD (.inl e)
  have hfs: ∀(x:PlE),((pre++ [x]).map (·.2)).filter (fun p=>canB d (restsS l ws) p.2)=(pre.map (·.2)).filter (fun p=>canB d (restsS l ws) p.2)++if canB d (restsS l ws) x.2.2 then [x.2] else []:=fun x=>by
   rw [List.map_append,List.filter_append]
   cases hq:canB d (restsS l ws) x.2.2<;>simp [List.filter,hq]
  refine CW.cond rfl (fun hyes=> ?_) (fun hno=> ?_)
  ·refine CW.region ?_
   refine TW.ld rfl (a5''.cell 0) ?_
   refine TW.ldS rfl (fun _ _ hv=>hB13'.fld hv) ?_
   refine TW.buildSlice 49 _ rfl rfl rfl eo46 (Args.cons rfl ct Args.nil) rfl rfl rfl rfl rfl ?_
   rintro g54 w10 f10
   have o10:=a6''.1.below f10.below
   refine TW.append (spV s) rfl rfl go46 rfl o10 rfl rfl (fun j v hj=>⟨⟨g54,0,none⟩,rfl,f10.blk.fld hj⟩) (fun v hv=>by simp [spV] at hv; rcases hv with rfl|rfl<;>rfl) (by omega) (by omega) ?_
   rintro vf' w11 o11 hg11 hn11
   have s10:=f10.below.size
   have s11:=hg11.size
   have b11:Blk w11 g11 46 [vf]:=Blk.keptO (a5''.next f10.below) hg11 (fun e=>by have:=hvlt _ e; omega)
   obtain ⟨A8,c8,hv8,_⟩:=o11.form
   have h18:vf'.oneCell'=true:=by rw [hv8]; rfl
   refine TW.store1 rfl sz46 rfl rfl (b11.cell 0) (b11.frozen 0) h18 ?_
   refine rnT ?_
   have r11:RowN sptT w11 49 w8.heap.size vf' (ps++ [(spV s,s)]):=RowN.app (a6''.step f10.below) o11 hg11 hn11 ⟨rfl,hs1,hs2⟩ (by omega)
   have r12:=r11.setCell (g:=g11) (i:=0) (by omega) vf'
   have hnew: ∀q,vf'.ownBlock=some q→vf.ownBlock=some q∨q=w10.heap.size:=fun q hq=>by
    rcases hn11 with h|h
    ·exact .inl (by rw [←h]; exact hq)
    ·rw [h] at hq; cases hq; exact .inr rfl
   have rec11:w11.heap[L]?=W2.heap[L]?:=(hg11.block L (by omega) (fun e=>hLv e.symm)).trans ((f10.below.block L (by omega)).trans rec3)
   have kept11: ∀k,k<W.heap.size→ ¬(k=g11∨vf.ownBlock=some k)→k≠L→w11.heap[k]?=W.heap[k]?:=fun k h1 h2 h3 =>
    (hg11.block k (by omega) (fun e=>h2 (.inr e.symm))).trans ((f10.below.block k (by omega)).trans ((hb3.block k (by omega)).trans (kW2 k h1 h3)))
   have hb11:Below w.heap.size w w11:=(a1''.step f10.below).grown hg11 (a1''.step f10.below).size (fun q hq=>by have:=hvlt q hq; omega)
   have b6w:Blk w11 g6 30 [.slice A d.length cap]:=Blk.keptO ((a3'.next hb3).next f10.below) hg11 (fun e=>by have:=hvlt _ e; omega)
   have b12w:Blk w11 g12 84 [.slice R6 (restsS l ws).length rc6]:=Blk.keptO ((a4'.next hb3).next f10.below) hg11 (fun e=>by have:=hvlt _ e; omega)
   have aR11:SL (sliceT evT) (fun k=>w5.heap.size≤k∧k<w6.heap.size) (w11.setCell ⟨g11,0,none⟩ vf') (.slice R6 (restsS l ws).length rc6) (restsS l ws):=((aR'.below hb3).below f10.below).mono (Kept.of_blocks fun k hk hlt=>(Below.heap_setCell _ _ _ _ (fun e=>by have e:k=g11:=e; omega)).trans (hg11.block k hlt (fun e=>by have:=hvlt k e.symm; omega)))
   refine KW.endN (hrec2.kept ((Below.heap_setCell _ _ _ _ (by show L≠g11; exact hLg)).trans rec11)) fun W9 hx9 hsz9 hk9 hrec9=> ?_
   have hs9:W9.heap.size=w11.heap.size:=by rw [hsz9]; simp
   refine ⟨by omega,fun k h1 h2 h3=>(hk9 k h3).trans ((Below.heap_setCell _ _ _ _ (fun e=>h2 (.inl e))).trans (kept11 k h1 h2 h3)),fun _=>⟨fun k=>k=g11∨vf'.ownBlock=some k,⟨⟨(hx9.less (by omega)).below (hb11.setCell (by show w.heap.size≤g11; omega) _) (Nat.le_refl _),by omega,(b6w.far (by show g6≠g11; omega) vf').ext hx9,(b12w.far (by show g12≠g11; omega) vf').ext hx9,aR11.ext hx9,vf',_,(b11.set 0 vf').ext hx9,r12.ext hx9,?_,rfl⟩,?_,?_,hrec9⟩,fun k hk=> ?_⟩,fun h=>by cases h⟩
   ·rw [hfs,List.map_append,List.map_append,a7]
    simp [hyes]
   ·rintro (h|h)
    ·exact hLg h
    ·rcases hnew L h with h|h
     ·exact hLv h
     ·omega
   ·rintro (h|h)
    ·exact hDg h
    ·rcases hnew D h with h|h
     ·exact hDv h
     ·omega
   ·rcases hk with rfl|hk
    ·exact ⟨.inl (.inl rfl),by omega⟩
    ·rcases hnew k hk with h|h
     ·exact ⟨.inl (.inr h),by have:=hvlt k h; omega⟩
     ·refine ⟨.inr (by omega),?_⟩
      have:=o11.lt hk
      omega
  ·refine rnT ?_
   refine KW.endN (hrec2.kept rec3) fun W8 hx8 hsz8 hk8 hrec8=> ?_
   refine ⟨by omega,fun k h1 h2 h3=>(hk8 k h3).trans ((hb3.block k (by omega)).trans (kW2 k h1 h3)),fun _=>⟨fun k=>k=g11∨vf.ownBlock=some k,⟨⟨(hx8.less (by omega)).below a1'' (Nat.le_refl _),by omega,(a3'.next hb3).ext hx8,(a4'.next hb3).ext hx8,(aR'.below hb3).ext hx8,vf,ps,a5''.ext hx8,a6''.ext hx8,?_,rfl⟩,hML,hMD,hrec8⟩,fun k hk=> ?_⟩,fun h=>by cases h⟩
   ·rw [hfs,List.map_append,a7]
    simp [hno]
   ·refine ⟨.inl hk,?_⟩
    rcases hk with rfl|hk
    ·omega
    ·have:=hvlt k hk; omega
 ·rintro D xs M W hD hdone ⟨a1,a2,a3,a4,aR,vf,ps,a5,a6,a7,rfl⟩ hMD hdef
  have hdone':xs.map (·.2)=plsS N t:=hdone
  have hDn:D<W.heap.size:=(Array.getElem?_eq_some_iff.1 hdef).1
  have hput:ExtF w8.heap.size W (W.putObj D (.deferred none)):=ExtF.putObj hdef rfl hD
  have hBp:Below w.heap.size w (W.putObj D (.deferred none)):=Below.putCtl a1 (by omega)
  refine KW.blockN (KW.then_ ?_)
  refine rnT ?_
  refine TW.ld rfl (a5.cell 0) ?_
  refine rnT ?_
  refine ret1M Tryz.results8 rfl hdef ⟨hBp,?_⟩
  rw [poss_eq hok]
  unfold spotsS
  rw [←hdone',←a7]
  exact ((a6.ext hput).sl (by show 0<2; omega)).wider fun _ h=>h.2
 ·rintro D c pre M W hD h
  exact h.elim
end Go.Proofs.YtffjgpoadfkjlaaGreatDoor
namespace Go.PF
open Go.RowKit
section
variable {P:Program} {N:Nat} {E:Env} {w:World} {fn:Func} {R:Value→World→Prop}
theorem ret2CS {s u:Nat} {t t1:TypeId} {fs:Array Field} {g:Nat} {cs:List Value} {v:Value} (hres:fn.results= #[.cell s t,.tmp u]) (hu:P.underlying t=some (.struct fs)) (hs:(P.info? t).map (·.size)=some cs.length) (hl:look E s=some (none,.pointer (some ⟨g,0,none⟩))) (hv:look E u=some (none,v)) (hB:Blk w g t1 cs) (hR:R (.tuple #[.agg cs.toArray,v]) w) :
  KW N [] (bodyPost P fn (fun e w'=> ∃v,e= .returned v∧R v w') .ret) E w:=fun a ha=>by
 refine bodyPost_ret (v:= .tuple #[.agg cs.toArray,v]) ?_ ha.defers ⟨_,rfl,hR⟩
 have e:a.tmps.getD s undef= .pointer (some ⟨g,0,none⟩):=(ha.slots s none _ hl).1 trivial
 have e2:a.tmps.getD u undef=v:=(ha.slots u none _ hv).1 trivial
 simp only [Array.getD_eq_getD_getElem?] at e e2
 simp [results,hres,e,e2,asAddr,run_loadVarS hu hs (fun j v hj=>hB.fld hj)]
end
end Go.PF
namespace Go.Proofs.YtffjgpoadfkjlaaGreatDoor
open Go.PF Go.RowKit Go.Ord
attribute [local irreducible] TW CW KW DW
variable {l:List Ev} {ws:List (List Int)} {t o:Int} {w:World} {lv wv:Value}
def certS:List Spt→Spt×Bool
 | [s]=>(s,true)
 | _=>((0,0),false)
theorem certS_none {l:List Spt} (h:l.length≠1):certS l=((0,0),false):=by
 match l,h with
 | [],_=>rfl
 | [_],h=>exact absurd rfl h
 | _::_::_,_=>rfl
theorem certain_c {v:NV} {N:Net} {dv:Value} {d:Dist} (ht:Tabs w) (hN:NetAt w v N) (hd:SD w dv d) (hl:SE w lv l) (hS:SD w wv ws) (hne: ∀e∈l,e.needs.length≤1000000) :
  Gives Tryz.prog 13 #[.agg v.cells.toArray,dv,lv,wv,.int .i64 t] w fun x w'=>Below w.heap.size w w'∧x= .tuple #[.agg (spV (certS (possS N d l ws t)).1).toArray,.bool (certS (possS N d l ws t)).2]:=by
 refine gv (f:=13) ?_
 refine rnT ?_
 refine TW.box rfl rfl rfl rfl ?_
 rintro g5 w1 f1
 refine TW.alloc rfl rfl zc49 ?_
 rintro g10 w2 f2
 refine rnT ?_
 have b2:=f1.below.step f2.below
 have hB5:=f1.blk.next f2.below
 refine TW.ldS rfl (fun _ _ hv=>hB5.fld hv) ?_
 refine rnT ?_
 refine TW.cl rfl (possible_c (ht.below b2) (net_step hN b2) (sd_step hd b2) (se_step hl b2) (sd_step hS b2) hne) ?_
 rintro u w3 ⟨c3,h3⟩
 have b3:=b2.step c3
 have hB10:=f2.blk.next c3
 have q10:=f2.at_
 have q1:=f1.below.size
 obtain ⟨A,cap,rfl,_⟩:=h3.form
 obtain ⟨L,hL⟩: ∃L,L=possS N d l ws t:=⟨_,rfl⟩
 rw [←hL] at h3 ⊢
 refine rnT ?_
 refine CW.condP rfl (fun hne1=> ?_) (fun he1=> ?_)
 ·refine rnT ?_
  refine TW.build [] _ [.int .i64 0,.int .i64 0] rfl rfl rfl Args.nil (by kernel_rfl) ?_
  refine TW.storeBlkF rfl rfl rfl hB10 sz49 rfl rfl rfl ?_
  rintro w4 hB4 hbut4 hsz4
  refine rnT ?_
  refine ret2CS Tryz.results13 Tryz.underlying49 (by exact sz49) rfl rfl hB4 ⟨b3.grown hbut4 b3.size (fun q hq=>by cases hq; omega),?_⟩
  rw [certS_none (by omega)]
  rfl
 ·obtain ⟨s,rfl⟩: ∃s,L= [s]:=List.length_eq_one_iff.1 (by omega)
  obtain ⟨ad,rfl⟩:=h3.addr (by simp)
  have hcells:=(SPs.get h3 (i:=0) (s:=s) rfl).1
  refine rnT ?_
  refine TW.ldS rfl (fun j u hj=>hcells j u hj) ?_
  refine TW.storeBlkF rfl rfl rfl hB10 sz49 rfl rfl rfl ?_
  rintro w4 hB4 hbut4 hsz4
  refine rnT ?_
  refine ret2CS Tryz.results13 Tryz.underlying49 (by exact sz49) rfl rfl hB4 ⟨b3.grown hbut4 b3.size (fun q hq=>by cases hq; omega),rfl⟩
theorem reach_c {dv:Value} {d:Dist} {f:Int} (hd:SD w dv d) (hl:SE w lv l) (hS:SD w wv ws) (hne: ∀e∈l,e.needs.length≤1000000) (hI:Knd.OK (.at o f t)) :
  Gives Tryz.prog 14 #[dv,lv,wv,.int .i64 o,.int .i64 f,.int .i64 t] w fun x w'=>Below w.heap.size w w'∧x= .bool (reachS d l ws o f t):=by
 obtain ⟨A,cap,rfl,hcap⟩:=hd.form
 obtain ⟨B,lcap,rfl,hlcap⟩:=hl.form
 obtain ⟨X,xcap,rfl,_⟩:=hS.form
 refine gv (f:=14) ?_
 refine rnT ?_
 refine TW.cl rfl (fitting_c hd hl) ?_
 rintro y w1 ⟨b1,rfl⟩
 refine rnT ?_
 refine CW.pk [0,1,2,3,4,5,12,27] rfl ?_
 refine CW.cond rfl (fun hbad=> ?_) (fun hgood=> ?_)
 ·refine rnT ?_
  refine rt1 rfl ⟨b1,?_⟩
  unfold reachS
  cases hf:dec (FitW d l ws.length) with
  | false=>rfl
  | true =>
   rw [hf] at hbad
   simp at hbad
   rw [decide_eq_false (by omega)]
   rfl
 have hg:FitW d l ws.length∧0≤o∧o<(d.length:Int):=by
  by_cases hf:FitW d l ws.length
  ·rw [dec_pos hf] at hgood
   simp at hgood
   exact ⟨hf,by omega,by omega⟩
  ·rw [dec_neg hf] at hgood
   simp at hgood
 have hwl:=hg.1.worlds
 have hll:=hg.1.few
 refine rnT ?_
 refine TW.cl rfl (restsOf_c (se_step hl b1) (sd_step hS b1) (by omega) hne (by omega)) ?_
 rintro rv w2 ⟨c2,h2⟩
 refine rnT ?_
 refine TW.cl rfl (visit_c) ?_
 rintro fv w3 ⟨c3,h3⟩
 obtain ⟨kf,caps,rfl,hen,hfo⟩:=h3.ok hI
 have b2:=b1.step c2
 have b3:=b2.step c3
 refine TW.cl rfl (can_c (sd_step hd b3) ((h2.below c3).wider fun q hq=>by have:=c3.size; omega) hen hfo hI (rests_len hg.1 ws)) ?_
 rintro y4 w4 ⟨c4,rfl⟩
 refine rnT ?_
 refine rt1 rfl ⟨b3.step c4,?_⟩
 unfold reachS
 rw [dec_pos hg.1,decide_eq_true hg.2]
 rfl
theorem seen_eq:(decide (0<ws.length)&& !(ws.any fun S=>decide ((restS (l.filter (isSeen o t)) S).length=0)))=seenS l ws o t:=by
 unfold seenS
 congr 1
 rw [List.not_any_eq_all_not]
 refine bool_ext ?_
 rw [List.all_eq_true,List.all_eq_true]
 refine forall_congr' fun S=>forall_congr' fun _=> ?_
 have e:restS (l.filter (isSeen o t)) S=(restS l S).filter (isSeen o t):=by
  unfold restS
  rw [List.filter_filter,List.filter_filter]
  exact List.filter_congr fun x _=>Bool.and_comm _ _
 rw [e]
 constructor
 ·intro h
  have h: ¬((restS l S).filter (isSeen o t)).length=0:=by simpa using h
  obtain ⟨x,hx⟩:=List.exists_mem_of_length_pos (Nat.pos_of_ne_zero h)
  obtain ⟨h1,h2⟩:=List.mem_filter.1 hx
  exact List.any_eq_true.2 ⟨x,h1,h2⟩
 ·intro h
  obtain ⟨x,h1,h2⟩:=List.any_eq_true.1 h
  have:=List.length_pos_of_mem (List.mem_filter.2 ⟨h1,h2⟩)
  rw [decide_eq_false (by omega)]
  rfl
theorem seen_c (hl:SE w lv l) (hS:SD w wv ws) (hsm:l.length≤1000000) (hne: ∀e∈l,e.needs.length≤1000000) :
  Gives Tryz.prog 15 #[lv,wv,.int .i64 o,.int .i64 t] w fun x w'=>Below w.heap.size w w'∧x= .bool (seenS l ws o t):=by
 obtain ⟨B,lcap,rfl,hlcap⟩:=hl.form
 obtain ⟨X,xcap,rfl,_⟩:=hS.form
 refine gv (f:=15) ?_
 refine rnT ?_
 refine TW.alloc rfl rfl zc31 ?_
 rintro g9 w1 f1
 refine rnT ?_
 have q9:=f1.at_
 have q9':=f1.size
 refine CW.lp [1,2,3,9,13,14] (fun x:Nat×Value×List (List Value×Ev)=> [(15,none,.int .i64 (x.1:Int))])
  (fun x W=>x.1≤l.length∧Below w.heap.size w W∧w1.heap.size≤W.heap.size∧Blk W g9 31 [x.2.1]∧OwnS W 39 4 x.2.1 x.2.2.length (x.2.2.flatMap (·.1))∧(∀g,x.2.1.ownBlock=some g→w1.heap.size≤g)∧x.2.2.map (·.2)=(l.take x.1).filter (isSeen o t)∧ ∀p∈x.2.2,evT.rep (fun k=>k<w.heap.size) w p.1 p.2) (fun x=>l.length-x.1) (0,.slice none 0 0,[]) ⟨Nat.zero_le _,f1.below,Nat.le_refl _,f1.blk,OwnS.nil _ _ _,fun g hg=>by simp [Value.ownBlock] at hg,rfl,fun p hp=>by cases hp⟩ ?_
 rintro ⟨i,vf,ps⟩ W ⟨hi,hB,hsW,hB9,hO,hob,hmap,hrep⟩
 dsimp only at hi hB9 hO hob hmap hrep
 have hpl:ps.length≤l.length:=by
  have:=congrArg List.length hmap
  simp only [List.length_map] at this
  have h2:=List.length_filter_le (isSeen o t) (l.take i)
  rw [List.length_take] at h2
  omega
 refine rnT ?_
 refine CW.condP rfl (fun hlt=> ?_) (fun hge=> ?_)
 ·obtain ⟨e,he,hem⟩:=getx (l:=l) (k:=i) (by omega)
  obtain ⟨ad,rfl⟩:=hl.addr (by omega)
  obtain ⟨nv,hcells0,i1,i2,i3,hn0⟩:=SE.get hl he
  obtain ⟨C,ncap,rfl,_⟩:=hn0.form
  have hcells: ∀j u,[Value.int .i64 e.office,.int .i64 e.low,.int .i64 e.high,.slice C e.needs.length ncap][j]?=some u→W.cell? ((ad.add ((i:Int).toNat*4)).add j)=some u:=fun j u hj=>(hB.cell (block_lt_of_cell (hcells0 j u hj))).trans (hcells0 j u hj)
  have htk:(l.take (i+1)).filter (isSeen o t)=(l.take i).filter (isSeen o t)++if isSeen o t e then [e] else []:=by
   rw [List.take_add_one,he,List.filter_append]
   cases hq:isSeen o t e<;>simp [List.filter,hq]
  refine rnT ?_
  refine TW.ldS rfl (hcells) ?_
  refine TW.newVar rfl zc39 rfl sz39 rfl rfl ?_
  rintro g11 w2 f2
  refine rnT ?_
  have hB92:=hB9.next f2.below
  refine TW.ld rfl (f2.blk.fld rfl) ?_
  refine rnT ?_
  refine TW.ld rfl (f2.blk.fld rfl) ?_
  refine rnT ?_
  refine CW.pk [1,2,3,9,11,13,14,15,28] rfl ?_
  refine CW.cond rfl (fun hyes=> ?_) (fun hno=> ?_)
  ·refine CW.region ?_
   refine TW.ld rfl (hB92.cell 0) ?_
   refine TW.ldS rfl (fun _ _ hv=>f2.blk.fld hv) ?_
   refine TW.buildSlice 39 _ rfl rfl rfl eo31 (Args.cons rfl ct Args.nil) rfl rfl rfl rfl rfl ?_
   rintro g3 w3 f3
   have b3:=f2.below.step f3.below
   have hB3:=hB.step b3
   have s3:=b3.size
   refine TW.append [.int .i64 e.office,.int .i64 e.low,.int .i64 e.high,.slice C e.needs.length ncap] rfl rfl go31 rfl (hO.below b3) rfl rfl (fun j v hj=>⟨⟨g3,0,none⟩,rfl,f3.blk.fld hj⟩) (fun v hv=>by simp at hv; rcases hv with rfl|rfl|rfl|rfl<;>rfl) (by omega) (by omega) ?_
   rintro vf' w4 o4 hg4 hn4
   have s4:=hg4.size
   have hB94:Blk w4 g9 31 [vf]:=Blk.keptO (hB9.next b3) hg4 (fun e=>by have:=hob _ e; omega)
   obtain ⟨A8,c8,hv8,_⟩:=o4.form
   have h18:vf'.oneCell'=true:=by rw [hv8]; rfl
   refine TW.store1 rfl sz31 rfl rfl (hB94.cell 0) (hB94.frozen 0) h18 ?_
   refine rnT ?_
   have hob': ∀g,vf'.ownBlock=some g→w1.heap.size≤g:=fun g hg=>by
    rcases hn4 with h|h
    ·exact hob g (by rw [←h]; exact hg)
    ·rw [h] at hg; cases hg; omega
   have hB4:Below w.heap.size w w4:=hB3.grown hg4 hB3.size (fun q hq=>by have:=hob q hq; omega)
   refine KW.rd (i+1,vf',ps++ [([.int .i64 e.office,.int .i64 e.low,.int .i64 e.high,.slice C e.needs.length ncap],e)]) ⟨by show i+1≤l.length; omega,hB4.setCell (by show w.heap.size≤g9; omega) _,by simp; omega,hB94.set 0 vf',?_,hob',?_,fun p hp=> ?_⟩
   ·show OwnS _ _ 4 vf' (ps++ [_]:List (List Value×Ev)).length ((ps++ [_]:List (List Value×Ev)).flatMap fun p=>p.1)
    rw [List.flatMap_append,List.length_append]
    have:=OwnS.kept o4 (w':=w4.setCell ⟨g9,0,none⟩ vf') fun q hq=>Below.heap_setCell _ _ _ _ (fun e=>by have e:q=g9:=e; have:=hob' q hq; omega)
    simpa using this
   ·show List.map Prod.snd (ps++ [_])=(l.take (i+1)).filter (isSeen o t)
    rw [List.map_append,hmap,htk]
    have:isSeen o t e=true:=by
     unfold isSeen
     simpa [and_comm] using hyes
    rw [this]
    rfl
   ·rcases List.mem_append.1 hp with h|h
    ·exact hrep p h
    ·rw [List.mem_singleton] at h
     subst h
     exact ⟨_,rfl,i1,i2,i3,hn0⟩
  ·refine rnT ?_
   refine KW.rd (i+1,vf,ps) ⟨by show i+1≤l.length; omega,hB.step f2.below,by have:=f2.below.size; omega,hB92,hO.below f2.below,hob,?_,hrep⟩
   show ps.map (·.2)=(l.take (i+1)).filter (isSeen o t)
   have:isSeen o t e=false:=by
    unfold isSeen
    cases hq:decide (e.office=o∧e.high≤t) with
    | false=>rfl
    | true=>exact absurd (by simpa using hq) (by simpa using hno)
   rw [hmap,htk,this]
   simp
 have hie:i=l.length:=by omega
 subst hie
 rw [List.take_length] at hmap
 have hth:SE W vf (l.filter (isSeen o t)):=by
  have:=OwnS.toSLn (by decide) hB hrep hO rfl (by omega)
  rw [hmap] at this
  exact this.wider fun q hq=>hq.elim (fun h=>by have:=hB.size; omega) (fun h=>hO.lt h)
 refine rnT ?_
 refine TW.makeFunc rfl rfl (Args.cons rfl ct Args.nil) ?_
 refine rnT ?_
 refine TW.callF (cap:= []) rfl rfl en37 rfl ct (Args.cons rfl id (Args.cons rfl id Args.nil)) (fun _=>someRI_c (sd_step hS hB) en35 (seen1_c hB9 hth (by have:=List.length_filter_le (isSeen o t) l; omega) (fun e he=>hne e ((List.mem_filter (p:=isSeen o t)).1 he).1))) ?_
 rintro w5 c5
 refine rnT ?_
 refine rt1 rfl ⟨hB.step c5,?_⟩
 rw [←seen_eq]
 simp
end Go.Proofs.YtffjgpoadfkjlaaGreatDoor
