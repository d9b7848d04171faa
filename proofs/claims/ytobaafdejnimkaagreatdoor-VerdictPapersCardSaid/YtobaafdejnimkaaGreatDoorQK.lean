/- Texts of this claim,joined. -/
import Derived.Test.YtobaafdejnimkaaGreatDoorQJ
set_option linter.unusedSimpArgs false
set_option linter.unusedVariables false
set_option maxRecDepth 100000
set_option maxHeartbeats 4000000
namespace Go.Proofs.YtobaafdejnimkaaGreatDoor
open Go.PF Go.RowKit Go.Ord
attribute [local irreducible] TW CW KW DW
theorem SL.dropS {α:Type} {T:Ty α} {F:Nat→Prop} {w:World} {A:Option Addr} {n c:Nat} {l:List α} (h:SL T F w (.slice A n c) l) {i:Nat} (hi:i≤l.length):SL T F w (.slice (if c=i then A else A.map (·.add (i*T.n))) (n-i) (c-i)) (l.drop i):=by
 obtain ⟨A',c',hv,h1,h2,h3⟩:=h
 simp only [Value.slice.injEq] at hv
 obtain ⟨rfl,rfl,rfl⟩:=hv
 refine ⟨_,_,by rw [List.length_drop],by rw [List.length_drop]; omega,by rw [List.length_drop]; omega,fun j x hx=> ?_⟩
 rw [List.getElem?_drop] at hx
 have hlt:=(List.getElem?_eq_some_iff.1 hx).1
 obtain ⟨ad,cs,rfl,hF,hc,hr⟩:=h3 (i+j) x hx
 rw [if_neg (by omega)]
 refine ⟨ad.add (i*T.n),cs,rfl,by rw [add_block]; exact hF,fun k u hu=> ?_,hr⟩
 have:=hc k u hu
 rw [add_add ad (i*T.n) (j*T.n),←Nat.add_mul]
 exact this
def SetsV (b:Nat) (v:Value) (n:Nat) (u:Value) (W:World):Prop:= ∃gs gl,u= .func (.func 150) #[] [.pointer (some ⟨gs,0,none⟩),.pointer (some ⟨gl,0,none⟩)].toArray∧Blk W gs 3 [.int .i64 (n:Int)]∧Blk W gl 32 [v]∧b≤gs∧b≤gl
theorem SetsV.mono (b:Nat) (v:Value) (n:Nat):Ent.mono (.pr (SetsV b v n)):=fun _ _ _ hb ⟨gs,gl,h1,h2,h3,h4⟩=>⟨gs,gl,h1,h2.next hb,h3.next hb,h4⟩
theorem sets_c {w:World} {A:Option Addr} {k c n:Nat}:Gives Tryz.prog 78 #[.slice A k c,.int .i64 (n:Int)] w fun u w'=>Below w.heap.size w w'∧SetsV w.heap.size (.slice A k c) n u w':=by
 refine gv (f:=78) ?_
 refine rnT ?_
 refine TW.box rfl rfl rfl rfl ?_
 rintro g1 w1 f1
 refine TW.box rfl rfl rfl rfl ?_
 rintro g2 w2 f2
 refine rnT ?_
 refine TW.makeFunc rfl rfl (Args.cons rfl ct (Args.cons rfl ct Args.nil)) ?_
 refine rnT ?_
 refine rt1 rfl ⟨f1.below.step f2.below,g2,g1,rfl,f2.blk,f1.blk.next f2.below,?_,?_⟩
 ·have:=f2.at_; have:=f1.below.size; omega
 ·have:=f1.at_; omega
def setPos (l:List Int) (n:Nat) (w:World) (pre:List (Value×List Int)) (x:Value×List Int) (M:Nat→Prop) (W:World):Prop:=(∃suf,setsS l n=pre.map (·.2)++x.2::suf)∧SL intT (fun k=>w.heap.size≤k∧ ¬M k) W x.1 x.2
theorem sets_iter: ∀(n:Nat) {F:Nat→Prop} {v:Value} {l:List Int} {w:World} {gs gl:Nat},SL intT F w v l→(∀k,F k→k<w.heap.size)→n≤l.length→l.length≤1000→Blk w gs 3 [.int .i64 (n:Int)]→Blk w gl 32 [v] →
  IterW Tryz.prog 150 [.pointer (some ⟨gs,0,none⟩),.pointer (some ⟨gl,0,none⟩)] (fun x:Value×List Int=> [x.1]) (setPos l n w) (fun xs=>xs.map (·.2)=setsS l n) (fun k=>k=gs∨k=gl∨F k) w:=by
 intro n
 induction n with
 | zero =>
  intro F v l w gs gl hl hF hn hsm hgs hgl yl J Jx W M hown hsz hyl hM hMlt hJ hJx hy h0
  have hgsW:Blk W gs 3 [.int .i64 ((0:Nat):Int)]:=(hown gs (.inl rfl) hgs.lt).trans hgs
  refine gvM (f:=150) ?_
  refine rnT ?_
  refine TW.box rfl rfl rfl rfl ?_
  rintro g3 w1 f1
  refine rnT ?_
  refine TW.ld rfl ((hgsW.next f1.below).cell 0) ?_
  refine rnT ?_
  refine CW.condP rfl (fun h1=> ?_) (fun h2=> ?_)
  ·refine rnT ?_
   refine TW.ld rfl (f1.blk.cell 0) ?_
   refine TW.buildSlice0 3 rfl rfl eo32 ?_
   rintro g4 w2 f2
   have hb2:=f1.below.step f2.below
   have hj2:J [] M w2:=hJ _ _ _ _ h0 (.of_below hb2)
   have hs2:=hb2.size
   have hset0:setsS l 0= [[]]:=by cases l<;>rfl
   refine TW.yield rfl rfl rfl (Args.cons rfl ct Args.nil) (hy [] (.slice (some ⟨g4,0,none⟩) 0 0,[]) M w2 hj2 ⟨⟨[],by rw [hset0]; rfl⟩,⟨_,_,rfl,Nat.le_refl _,by simp,fun i x hx=>by simp at hx⟩⟩ (fun k hk=>by have:=hMlt k hk; omega) (by omega)) ?_
   rintro yb W3 hR
   refine rnT ?_
   refine retMs (n:=W.heap.size) [] Tryz.results150 List.nodup_nil (fun D hD=>by cases hD) (fun w' hx=> ?_) .ret (.inl rfl)
   cases yb with
   | true =>
    obtain ⟨M',hj3,_⟩:=hR.yes rfl
    exact .inl ⟨_,M',by rw [hset0]; rfl,hJ _ _ _ _ hj3 hx⟩
   | false =>
    obtain ⟨M',hj3⟩:=hR.no rfl
    exact .inr ⟨_,M',hJx _ _ _ _ hj3 hx⟩
  ·exact absurd rfl h2
 | succ m ih =>
  intro F v l w gs gl hl hF hn hsm hgs hgl yl J Jx W M hown hsz hyl hM hMlt hJ hJx hy h0
  obtain ⟨A,cap,rfl,_⟩:=hl.form
  obtain ⟨ad,rfl⟩:=hl.addr (by omega)
  have mem: ∀W':World,(∀k,(k=gs∨k=gl∨F k)→k<w.heap.size→W'.heap[k]?=w.heap[k]?)→Blk W' gs 3 [.int .i64 ((m+1:Nat):Int)]∧Blk W' gl 32 [.slice (some ad) l.length cap]∧SL intT F W' (.slice (some ad) l.length cap) l:=fun W' h =>
   ⟨(h gs (.inl rfl) hgs.lt).trans hgs,(h gl (.inr (.inl rfl)) hgl.lt).trans hgl,hl.mono (Kept.of_blocks fun k hk hlt=>h k (.inr (.inr hk)) hlt)⟩
  obtain ⟨m1,m2,m3⟩:=mem W hown
  refine gvM (f:=150) ?_
  refine rnT ?_
  refine TW.box rfl rfl rfl rfl ?_
  rintro g3 w1 f1
  refine rnT ?_
  have hg3:=f1.at_
  have hs1:=f1.size
  refine TW.ld rfl ((m1.next f1.below).cell 0) ?_
  refine rnT ?_
  refine CW.condP rfl (fun h1=> ?_) (fun h2=> ?_)
  ·exfalso
   omega
  refine rnT ?_
  refine TW.ld rfl ((m2.next f1.below).cell 0) ?_
  refine rnT ?_
  refine TW.ld rfl ((m1.next f1.below).cell 0) ?_
  refine rnT ?_
  refine CW.pk [0,1,2,3,15,16] rfl ?_
  refine CW.loopD (fun x:Nat×List (Value×List Int)×(Nat→Prop)×List Nat=>x.2.2.2.map markOf) (fun x=> [(1,none,.pointer (some ⟨gs,0,none⟩)),(2,none,.pointer (some ⟨gl,0,none⟩)),(3,none,.pointer (some ⟨g3,0,none⟩)),(15,none,.int .i64 ((l.length:Int)-((m+1:Nat):Int)+1)),(16,none,.int .i64 (x.1:Int))])
   (fun x W'=>J x.2.1 x.2.2.1 W'∧x.1≤l.length-m∧x.2.1.map (·.2)=setsTo l m x.1∧w1.heap.size≤W'.heap.size∧(∀k,x.2.2.1 k→k<W'.heap.size)∧(∀k,(k=gs∨k=gl∨F k)→k<w.heap.size→W'.heap[k]?=w.heap[k]?∧ ¬x.2.2.1 k)∧Blk W' g3 103 [.func (.yield yl) #[] #[]]∧ ¬x.2.2.1 g3∧x.2.2.2.Nodup ∧
    ∀ D∈x.2.2.2,w1.heap.size≤D∧W'.heap[D]?=some (.deferred (some []))∧ ¬x.2.2.1 D) (fun x=>l.length-m-x.1)
   (0,[],M,[]) [1,2,3,15,16] rfl ⟨hJ _ _ _ _ h0 (.of_below f1.below),Nat.zero_le _,rfl,Nat.le_refl _,fun k hk=>by have:=hMlt k hk; show k<w1.heap.size; omega,fun k hk hlt=>⟨(f1.below.block k (by omega)).trans (hown k hk hlt),(hM k hk).1⟩,f1.blk,fun h=>by have:=hMlt _ h; omega,List.nodup_nil,fun D hD=>by cases hD⟩ rfl ?_
  rintro ⟨i,pre,M1,Ds⟩ W1 ⟨hj,hi,hpre,hsz1,hM1,hk1,hB3,hM3,hnd,hDs⟩
  dsimp only at hj hi hpre hsz1 hM1 hk1 hB3 hM3 hnd hDs
  refine rnT ?_
  refine CW.condP rfl (fun hlt=> ?_) (fun hge=> ?_)
  ·have hil:i<l.length-m:=by omega
   have hill:i<l.length:=by omega
   obtain ⟨n1,n2,n3⟩:=mem W1 (fun k hk hlt=>(hk1 k hk hlt).1)
   have hx:l[i]?=some l[i]:=List.getElem?_eq_getElem hill
   refine rnT ?_
   refine TW.newVar1 rfl zc3 rfl sz3 rfl ?_
   rintro g4 w4 f4
   refine rnT ?_
   refine CW.draw mixed (by kernel_rfl) ?_
   have hg4:=f4.at_
   have n1':=n1.next f4.below
   have n2':=n2.next f4.below
   have n3':=n3.below f4.below
   refine DW.ld rfl (n2'.cell 0) ?_
   refine DW.ld rfl (f4.blk.cell 0) ?_
   refine rnD ?_
   refine DW.v V.sliceL rfl ⟨ct,ct,trivial⟩ (fun _=>by (try dsimp only); omega) ?_
   refine DW.ld rfl (n1'.cell 0) ?_
   refine rnD ?_
   have e1:((i:Int)+1).toNat=i+1:=by omega
   have hdrop:SL intT F w4 (.slice (if cap=((i:Int)+1).toNat then some ad else (some ad).map (·.add (((i:Int)+1).toNat*1))) (l.length-((i:Int)+1).toNat) (cap-((i:Int)+1).toNat)) (l.drop (i+1)):=by
    have:=SL.dropS n3' (i:=i+1) (by omega)
    rw [e1]
    exact this
   have hcall: ∀w':World,Below w4.heap.size w4 w'→Gives Tryz.prog 78 #[.slice (if cap=((i:Int)+1).toNat then some ad else (some ad).map (·.add (((i:Int)+1).toNat*1))) (l.length-((i:Int)+1).toNat) (cap-((i:Int)+1).toNat),.int .i64 (((m+1:Nat):Int)-1)] w' fun u w''=>Below w'.heap.size w' w''∧SetsV w4.heap.size (.slice (if cap=((i:Int)+1).toNat then some ad else (some ad).map (·.add (((i:Int)+1).toNat*1))) (l.length-((i:Int)+1).toNat) (cap-((i:Int)+1).toNat)) m u w'':=fun w' hb'=>by
    rw [show (((m+1:Nat):Int)-1)=(m:Int) by omega]
    exact sets_c.mono fun u w'' ⟨h1,gs',gl',h2,h3,h4,h5,h6⟩=>⟨h1,gs',gl',h2,h3,h4,Nat.le_trans hb'.size h5,Nat.le_trans hb'.size h6⟩
   refine DW.cl (.pr (SetsV w4.heap.size (.slice (if cap=((i:Int)+1).toNat then some ad else (some ad).map (·.add (((i:Int)+1).toNat*1))) (l.length-((i:Int)+1).toNat) (cap-((i:Int)+1).toNat)) m)) ?_ rfl (fun _ w' hb'=>hcall w' hb') ?_
   ·exact SetsV.mono _ _ _
   refine DW.nil (DW.finP [1,2,3,4,15,16,25] rfl fun vs w5 hb5 hs5=>KW.then_ ?_)
   obtain ⟨v1,v2,v3,v4,v15,v16,v25,rfl,h1,h2,h3,h4,h15,h16,h25⟩:=Sats.seven hs5
   refine CW.block ?_
   cases h1
   cases h2
   cases h3
   cases h4
   cases h15
   cases h16
   obtain ⟨gs',gl',rfl,hgs',hgl',hgs1,hgl1⟩:=h25
   have hb45:=f4.below.step hb5
   have hs45:=hb45.size
   have hs4:=f4.below.size
   have hs5:=hb5.size
   have hd5:=hdrop.below hb5
   have hj5:J pre M1 w5:=hJ _ _ _ _ hj (.of_below hb45)
   have hB35:=hB3.next hb45
   have hB45:=f4.blk.next hb5
   have o1:=n1.next hb45
   have o2:=n2.next hb45
   have o3:=n3.below hb45
   have hgslt:=hgs'.lt
   have hgllt:=hgl'.lt
   have hset:setsTo l m (i+1)=setsTo l m i++(setsS (l.drop (i+1)) m).map (l[i]:: ·):=by
    rw [setsTo_succ]
    unfold setsAt
    rw [hx]
   have hsub: ∃rest,setsS l (m+1)=setsTo l m (i+1)++rest:=by
    rw [setsS_eq]
    refine ⟨(List.range' (i+1) (l.length-(i+1))).flatMap (setsAt l m),?_⟩
    unfold setsTo
    rw [←List.flatMap_append,List.range_eq_range',List.range_eq_range']
    congr 1
    have:=List.range'_append_1 (s:=0) (m:=i+1) (n:=l.length-(i+1))
    rw [Nat.zero_add,show i+1+(l.length-(i+1))=l.length by omega] at this
    exact this.symm
   have hFM1: ∀k,F k→k<w.heap.size∧ ¬M1 k∧k≠yl:=fun k hk=>⟨hF k hk,(hk1 k (.inr (.inr hk)) (hF k hk)).2,(hM k (.inr (.inr hk))).2⟩
   have hgs1':gs<w.heap.size∧ ¬M1 gs∧gs≠yl:=⟨hgs.lt,(hk1 gs (.inl rfl) hgs.lt).2,(hM gs (.inl rfl)).2⟩
   have hgl1':gl<w.heap.size∧ ¬M1 gl∧gl≠yl:=⟨hgl.lt,(hk1 gl (.inr (.inl rfl)) hgl.lt).2,(hM gl (.inr (.inl rfl))).2⟩
   have hg4M: ¬M1 g4:=fun h=>by have:=hM1 _ h; omega
   have hit5:=ih (F:=F) hd5 (fun k hk=>by have:=hF k hk; omega) (by rw [List.length_drop]; omega) (by rw [List.length_drop]; omega) hgs' hgl'
   refine CW.rangeW rfl en150 hit5 rfl (fun _=>rfl)
    (fun pre2 Mi Wi=> ∃outs M,Mi=(fun k=>M k∨k=yl)∧J (pre++outs) M Wi∧outs.map (·.2)=(pre2.map (·.2)).map (l[i]:: ·)∧w5.heap.size≤Wi.heap.size∧(∀k,M k→k<Wi.heap.size)∧(∀k,k<w5.heap.size→ ¬M1 k→k≠yl→Wi.heap[k]?=w5.heap[k]?)∧ ∀k,k<w5.heap.size→M k→M1 k)
    (fun c pre2 Mi Wi=>c= .ret∧(∃outs M,Jx outs M Wi)∧ ∀k,k<w5.heap.size→ ¬M1 k→k≠yl→Wi.heap[k]?=w5.heap[k]?)
    (fun k=>M1 k∨k=yl) ?_ ?_ ?_ ?_ ?_ ?_ ?_ ?_
   ·rintro k (hk|rfl)
    ·have:=hM1 k hk
     refine ⟨by omega,?_⟩
     rintro (rfl|rfl|h)
     ·omega
     ·omega
     ·exact (hFM1 k h).2.1 hk
    ·refine ⟨by omega,?_⟩
     rintro (rfl|rfl|h)
     ·omega
     ·omega
     ·exact (hFM1 _ h).2.2 rfl
   ·rintro k (rfl|rfl|h)
    ·exact hgslt
    ·exact hgllt
    ·have:=hF k h; omega
   ·rintro pre2 Mi Wa Wb ⟨outs,M2,a1,a2,a3,a4,a5,a6,a7⟩ hx'
    refine ⟨outs,M2,a1,hJ _ _ _ _ a2 (hx'.less (by omega)),a3,Nat.le_trans a4 hx'.size,fun k hk=>Nat.lt_of_lt_of_le (a5 k hk) hx'.size,fun k h1 h2 h3=> ?_,a7⟩
    have e:=a6 k h1 h2 h3
    rw [Array.getElem?_eq_getElem h1] at e ⊢
    exact hx'.block k _ e (.inl h1)
   ·rintro c pre2 Mi Wa Wb ⟨a1,⟨outs,M2,a2⟩,a6⟩ hx'
    refine ⟨a1,⟨outs,M2,hJx _ _ _ _ a2 (hx'.less (by omega))⟩,fun k h1 h2 h3=> ?_⟩
    have e:=a6 k h1 h2 h3
    rw [Array.getElem?_eq_getElem h1] at e ⊢
    exact hx'.block k _ e (.inl h1)
   ·exact ⟨[],M1,rfl,by rw [List.append_nil]; exact hj5,rfl,Nat.le_refl _,fun k hk=>by have:=hM1 k hk; omega,fun k _ _ _=>rfl,fun k _ h=>h⟩
   ·rintro D L pre2 x Mi Wi hD hL ⟨outs,M2,rfl,a2,a3,a4,a5,a6,a7⟩ ⟨⟨suf,hsuf⟩,hxs⟩ hMlt2 hML hMD hrec
    have hLM: ¬M2 L∧L≠yl:=⟨fun h=>hML (.inl h),fun h=>hML (.inr h)⟩
    refine rnT ?_
    refine KW.begin hrec fun W2 hx2 hsz2 hk2 hrec2=> ?_
    have old: ∀k,k<w5.heap.size→ ¬M1 k→k≠yl→W2.heap[k]?=w5.heap[k]?:=fun k h1 h2 h3=>(hk2 k (by omega)).trans (a6 k h1 h2 h3)
    have p2:Blk W2 gl 32 [.slice (some ad) l.length cap]:=(old gl (by omega) hgl1'.2.1 hgl1'.2.2).trans o2
    have p3:SL intT F W2 (.slice (some ad) l.length cap) l:=o3.mono (Kept.of_blocks fun k hk hlt=>old k hlt (hFM1 k hk).2.1 (hFM1 k hk).2.2)
    have p4:Blk W2 g4 3 [.int .i64 (i:Int)]:=(old g4 (by have:=f4.size; omega) hg4M (by omega)).trans hB45
    have p5:Blk W2 g3 103 [.func (.yield yl) #[] #[]]:=(old g3 (by omega) hM3 (by omega)).trans hB35
    obtain ⟨ad',he',hci,hI⟩:=p3.int hx
    cases he'
    obtain ⟨xv,xl⟩:=x
    dsimp only at hsuf hxs
    obtain ⟨Ax,cx,rfl,_⟩:=hxs.form
    have hxs2:SL intT (fun k=>w5.heap.size≤k∧ ¬(M2 k∨k=yl)) W2 (.slice Ax xl.length cx) xl:=hxs.ext hx2
    have hn1: ∀(j:Nat) (u:Value),(xl.map (Value.int .i64))[j]?=some u→ ∃ad':Addr,Ax=some ad'∧W2.cell? (ad'.add j)=some u:=by
     intro j u hu
     obtain ⟨y,hy,rfl⟩:=by simpa using hu
     obtain ⟨ad',h1,h2,_⟩:=hxs2.int (i:=j) hy
     exact ⟨ad',h1,by rw [Nat.mul_one] at h2; exact h2⟩
    have hxlm:xl∈setsS (l.drop (i+1)) m:=by rw [hsuf]; simp
    have hxlen:xl.length=m:=(mem_setsS.1 hxlm).2
    refine rnT ?_
    refine CW.drawR mixed fun W3 hW3=> ?_
    refine RW.draw .own 8 (by kernel_rfl) (by kernel_rfl) rfl rfl hW3 ?_
    refine DW.ld rfl (p5.cell 0) ?_
    refine DW.ld rfl (p2.cell 0) ?_
    refine DW.ld rfl (p4.cell 0) ?_
    refine DW.v V.indexAddr rfl ⟨ct,ct,trivial⟩ (fun _=>by omega) ?_
    refine DW.ld rfl hci ?_
    refine OW.buildSlice 3 _ rfl rfl rfl eo32 (DArgs.cons rfl ct DArgs.nil) rfl rfl rfl rfl rfl ?_
    refine rnD ?_
    refine OW.append (m:=xl.length) (A:=Ax) (xl.map (Value.int .i64)) rfl rfl go32 rfl (by kernel_rfl) rfl ct hn1 (by simp) (fun u hu=>by obtain ⟨y,_,rfl⟩:=List.mem_map.1 hu; rfl) (by omega) (by omega) ?_
    refine DW.nil (DW.finP [27,34] rfl fun vs w6 hb6 hs6=>KW.rk' ?_)
    obtain ⟨v27,v34,rfl,h27,h34⟩:=Sats.two hs6
    cases h27
    have h34':OwnS w6 3 1 v34 (1+xl.length) ([.int .i64 l[i]]++xl.map (Value.int .i64))∧ ∀g,v34.ownBlock=some g→W2.heap.size≤g:=h34
    have hxI: ∀y∈xl,I64 y:=fun y hy=>by
     obtain ⟨j,hj,hje⟩:=List.getElem_of_mem hy
     obtain ⟨_,_,_,h⟩:=hxs2.int (i:=j) (x:=y) (by rw [←hje]; exact List.getElem?_eq_getElem hj)
     exact h
    have hsl6:SL intT (fun k=>w.heap.size≤k∧ ¬M2 k) w6 v34 (l[i]::xl):=by
     refine OwnS.toInts (e:=3) ?_ (fun y hy=> ?_) (fun g hg=> ?_) (by simp; omega)
     ·have:=h34'.1
      rw [Nat.add_comm] at this
      exact this
     ·rcases List.mem_cons.1 hy with rfl|hy
      ·exact hI
      ·exact hxI y hy
     ·have:=h34'.2 g hg
      refine ⟨by omega,fun h=> ?_⟩
      have:=a5 g h
      omega
    have hj6:J (pre++outs) M2 w6:=hJ _ _ _ _ (hJ _ _ _ _ a2 (hx2.less (by omega))) (.of_below hb6)
    have hs6':=hb6.size
    have hpos:setPos l (m+1) w (pre++outs) (v34,l[i]::xl) M2 w6:=by
     refine ⟨?_,hsl6⟩
     obtain ⟨rest,hrest⟩:=hsub
     refine ⟨suf.map (l[i]:: ·)++rest,?_⟩
     rw [hrest,hset,hsuf,List.map_append,List.map_append,hpre,a3]
     simp
    refine RW.one (by kernel_rfl) (by kernel_rfl) rfl ?_
    refine TW.yield rfl rfl rfl (Args.cons rfl ct Args.nil) (hy (pre++outs) (v34,l[i]::xl) M2 w6 hj6 hpos (fun k hk=>by have:=a5 k hk; omega) (by omega)) ?_
    rintro yb W7 hR
    refine TW.nil (KW.pick [35] [(35,_,_)] rfl (KW.rk ?_))
    refine RW.one (by kernel_rfl) (by kernel_rfl) rfl ?_
    refine TW.v V.not rfl ⟨ct,trivial⟩ (fun _=>trivial) ?_
    refine TW.nil (KW.pick [36] [(36,_,_)] rfl (KW.rk ?_))
    refine RW.end rfl (KW.pick [36] [(36,_,_)] rfl (KW.then_ ?_))
    have hL2:L<W2.heap.size:=hrec2.lt
    have hrec7:=hrec2.kept ((hR.kept L (by omega) hLM.1 hLM.2).trans (hb6.block L hL2))
    have hs7:=hR.size
    have kept7: ∀k,k<Wi.heap.size→ ¬(M2 k∨k=yl)→k≠L→W7.heap[k]?=Wi.heap[k]?:=fun k h1 h2 h3 =>
     (hR.kept k (by omega) (fun h=>h2 (.inl h)) (fun h=>h2 (.inr h))).trans ((hb6.block k (by omega)).trans (hk2 k h3))
    have old7: ∀k,k<w5.heap.size→ ¬M1 k→k≠yl→W7.heap[k]?=w5.heap[k]?:=fun k h1 h2 h3 =>
     (kept7 k (by omega) (fun h=>h.elim (fun h=>h2 (a7 k h1 h)) h3) (by omega)).trans (a6 k h1 h2 h3)
    refine CW.cond rfl (fun hno=> ?_) (fun hgo=> ?_)
    ·refine rnT ?_
     obtain ⟨M',hjx⟩:=hR.no (by simpa using hno)
     refine KW.endR hrec7 fun W8 hx8 hsz8 hk8 hrec8=> ?_
     refine ⟨by omega,fun k h1 h2 h3=>(hk8 k h3).trans (kept7 k h1 h2 h3),fun h=>(by cases h),fun _=>⟨M',.ret,⟨rfl,⟨_,M',hJx _ _ _ _ hjx (hx8.less (by omega))⟩,fun k h1 h2 h3=>(hk8 k (by omega)).trans (old7 k h1 h2 h3)⟩,hrec8⟩⟩
    ·refine rnT ?_
     obtain ⟨M',hj7,hm7⟩:=hR.yes (by simpa using hgo)
     have hM'L: ∀k,k<Wi.heap.size→M' k→M2 k:=fun k h1 h2=>by
      rcases (hm7 k h2).1 with h|h
      ·exact h
      ·omega
     have hLi:L<Wi.heap.size:=by omega
     refine KW.endN hrec7 fun W8 hx8 hsz8 hk8 hrec8=> ?_
     refine ⟨by omega,fun k h1 h2 h3=>(hk8 k h3).trans (kept7 k h1 h2 h3),fun _=>⟨fun k=>M' k∨k=yl,⟨⟨outs++ [(v34,l[i]::xl)],M',rfl,?_,?_,by omega,fun k hk=>by have:=(hm7 k hk).2; omega,fun k h1 h2 h3=>(hk8 k (by omega)).trans (old7 k h1 h2 h3),fun k h1 h2=>a7 k h1 (hM'L k (by omega) h2)⟩,?_,?_,hrec8⟩,fun k hk=> ?_⟩,fun h=>by cases h⟩
     ·rw [←List.append_assoc]
      exact hJ _ _ _ _ hj7 (hx8.less (by omega))
     ·simp [a3]
     ·rintro (h|h)
      ·exact hLM.1 (hM'L L hLi h)
      ·exact hLM.2 h
     ·rintro (h|h)
      ·exact hMD (.inl (hM'L D (by omega) h))
      ·exact hMD (.inr h)
     ·rcases hk with hk|rfl
      ·obtain ⟨q1,q2⟩:=hm7 k hk
       exact ⟨q1.elim (fun h=> .inl (.inl h)) (fun h=> .inr (by omega)),by omega⟩
      ·exact ⟨.inl (.inr rfl),by omega⟩
   ·rintro D xs Mi Wi hD hdone ⟨outs,M2,rfl,a2,a3,a4,a5,a6,a7⟩ hMD hdef
    refine KW.blockN (KW.blockN (KW.then_ ?_))
    refine rnT ?_
    have hDlt:D<Wi.heap.size:=(Array.getElem?_eq_some_iff.1 hdef).1
    have hM2D: ∀k,k<W1.heap.size→M2 k→M1 k:=fun k h1 h2=>a7 k (by omega) h2
    refine KW.roundD (i+1,pre++outs,M2,D::Ds) [1,2,3,15,16] rfl rfl ⟨a2,?_,?_,?_,a5,?_,?_,?_,?_,?_⟩ ?_
    ·show i+1≤l.length-m
     omega
    ·show (pre++outs).map (·.2)=setsTo l m (i+1)
     rw [List.map_append,hpre,a3,hdone,hset]
    ·show w1.heap.size≤Wi.heap.size
     omega
    ·intro k hk hlt
     have h:=hk1 k hk hlt
     have hy':=(hM k hk).2
     exact ⟨(a6 k (by omega) h.2 hy').trans ((hb45.block k (by omega)).trans h.1),fun h'=>h.2 (hM2D k (by omega) h')⟩
    ·exact (a6 g3 (by omega) hM3 (by omega)).trans hB35
    ·exact fun h=>hM3 (hM2D g3 (by omega) h)
    ·refine List.nodup_cons.2 ⟨fun h=> ?_,hnd⟩
     have:=(Array.getElem?_eq_some_iff.1 (hDs D h).2.1).1
     omega
    ·intro D' hD'
     rcases List.mem_cons.1 hD' with rfl|hD'
     ·exact ⟨by omega,hdef,fun h=>hMD (.inl h)⟩
     ·obtain ⟨q1,q2,q3⟩:=hDs D' hD'
      have q4:=(Array.getElem?_eq_some_iff.1 q2).1
      exact ⟨q1,(a6 D' (by omega) q3 (by omega)).trans ((hb45.block D' q4).trans q2),fun h=>q3 (hM2D D' q4 h)⟩
    ·show l.length-m-(i+1)<l.length-m-i
     omega
   ·rintro D c pre2 Mi Wi hD ⟨rfl,⟨outs,M2,hjx⟩,a6⟩ hdef
    refine rnT ?_
    refine retMs (n:=W.heap.size) (D::Ds) Tryz.results150 ?_ ?_ (fun w' hx=> .inr ⟨_,_,hJx _ _ _ _ hjx hx⟩) .ret (.inl rfl)
    ·refine List.nodup_cons.2 ⟨fun h=> ?_,hnd⟩
     have:=(Array.getElem?_eq_some_iff.1 (hDs D h).2.1).1
     omega
    ·intro D' hD'
     rcases List.mem_cons.1 hD' with rfl|hD'
     ·exact ⟨by omega,hdef⟩
     ·obtain ⟨q1,q2,q3⟩:=hDs D' hD'
      have q4:=(Array.getElem?_eq_some_iff.1 q2).1
      exact ⟨by omega,(a6 D' (by omega) q3 (by omega)).trans ((hb45.block D' q4).trans q2)⟩
  ·refine rnT ?_
   have hie:i=l.length-m:=by
    have hge': ¬((i:Int)<(l.length:Int)-((m+1:Nat):Int)+1):=hge
    omega
   refine retMs (n:=W.heap.size) Ds Tryz.results150 hnd (fun D' hD'=> ?_) (fun w' hx=> .inl ⟨pre,M1,?_,hJ _ _ _ _ hj hx⟩) .normal (.inr rfl)
   ·obtain ⟨q1,q2,q3⟩:=hDs D' hD'
    exact ⟨by omega,q2⟩
   ·show pre.map (·.2)=setsS l (m+1)
    rw [hpre,setsS_eq,hie]
    have:=setsTo_enough (l:=l) (k:=m) (l.length-m) m (by omega)
    rw [show l.length-m+m=l.length by omega] at this
    exact this.symm
end Go.Proofs.YtobaafdejnimkaaGreatDoor
namespace Go.Proofs.YtobaafdejnimkaaGreatDoor
open Go.PF Go.RowKit Go.Ord
attribute [local irreducible] TW CW KW DW
theorem RowL.ext {α:Type} {T:Ty α} {w w':World} {e:TypeId} {b n:Nat} {v:Value} {ps:List (List Value×α)} (h:RowL T w e b v ps) (k:ExtF n w w'):RowL T w' e b v ps :=
 ⟨h.1.ext k,fun p hp=>T.wider _ _ _ _ _ (fun q hq=>⟨Nat.lt_of_lt_of_le hq.1 k.size,hq.2⟩) (T.mono _ _ _ _ _ k.kept (h.2.1 p hp)),h.2.2⟩
theorem RowL.kept {α:Type} {T:Ty α} {w w':World} {e:TypeId} {b:Nat} {v:Value} {ps:List (List Value×α)} (h:RowL T w e b v ps) (hs:w.heap.size≤w'.heap.size) (g:Nat) (hg:v.ownBlock≠some g) (hk: ∀k,k<w.heap.size→k≠g→w'.heap[k]?=w.heap[k]?) (ha: ∀p∈ps,T.rep (fun k=>RowF w v k∧k≠g) w p.1 p.2):RowL T w' e b v ps :=
 ⟨h.1.kept fun q hq=>hk q (h.1.lt hq) (fun e=>hg (by rw [←e]; exact hq)),fun p hp=>T.wider _ _ _ _ _ (fun q hq=>⟨Nat.lt_of_lt_of_le hq.1.1 hs,hq.1.2⟩) (T.mono _ _ _ _ _ (Kept.of_blocks fun k hF hlt=>hk k hlt hF.2) (ha p hp)),h.2.2⟩
def RowN {α:Type} (T:Ty α) (w:World) (e:TypeId) (b:Nat) (v:Value) (ps:List (List Value×α)):Prop:=OwnS w e T.n v ps.length (ps.flatMap (·.1))∧(∀p∈ps,T.rep (fun k=>RowF w v k∧b≤k) w p.1 p.2)∧ ∀g,v.ownBlock=some g→b≤g
section
variable {α:Type} {T:Ty α} {w w':World} {e:TypeId} {b:Nat} {v v':Value} {ps:List (List Value×α)}
theorem RowN.rowL (h:RowN T w e b v ps):RowL T w e b v ps:=⟨h.1,fun p hp=>T.wider _ _ _ _ _ (fun _ hk=>hk.1) (h.2.1 p hp),h.2.2⟩
theorem RowN.nil (T:Ty α) (w:World) (e:TypeId) (b:Nat):RowN T w e b (.slice none 0 0) []:=⟨OwnS.nil _ _ _,(fun p hp=>by cases hp),fun g h=>by simp [Value.ownBlock] at h⟩
theorem RowN.ext {n:Nat} (h:RowN T w e b v ps) (k:ExtF n w w'):RowN T w' e b v ps :=
 ⟨h.1.ext k,fun p hp=>T.wider _ _ _ _ _ (fun q hq=>⟨⟨Nat.lt_of_lt_of_le hq.1.1 k.size,hq.1.2⟩,hq.2⟩) (T.mono _ _ _ _ _ k.kept (h.2.1 p hp)),h.2.2⟩
theorem RowN.step (h:RowN T w e b v ps) (hb:Below w.heap.size w w'):RowN T w' e b v ps:=h.ext (n:=0) (.of_below hb)
theorem RowN.kept (h:RowN T w e b v ps) (hs:w.heap.size≤w'.heap.size) (hk: ∀k,b≤k→k<w.heap.size→w'.heap[k]?=w.heap[k]?):RowN T w' e b v ps :=
 ⟨h.1.kept fun q hq=>hk q (h.2.2 q hq) (h.1.lt hq),fun p hp=>T.wider _ _ _ _ _ (fun q hq=>⟨⟨Nat.lt_of_lt_of_le hq.1.1 hs,hq.1.2⟩,hq.2⟩) (T.mono _ _ _ _ _ (Kept.of_blocks fun k hF hlt=>hk k hF.2 hlt) (h.2.1 p hp)),h.2.2⟩
theorem RowN.setCell (h:RowN T w e b v ps) {g i:Nat} (hg:g<b) (u:Value):RowN T (w.setCell ⟨g,i,none⟩ u) e b v ps :=
 h.kept (by simp) fun k hk _=>Below.heap_setCell _ _ _ _ (fun e=>by have e:k=g:=e; omega)
theorem RowN.app {cs:List Value} {x:α} (h:RowN T w e b v ps) (hO:OwnS w' e T.n v' (ps.length+1) (ps.flatMap (·.1)++cs)) (hg:w.grownBy w' v.ownBlock) (hn:v'.ownBlock=v.ownBlock∨v'.ownBlock=some w.heap.size)
  (hr:T.rep (fun k=>RowF w v k∧b≤k) w cs x) (hb:b≤w.heap.size):RowN T w' e b v' (ps++ [(cs,x)]):=by
 have hk:Kept (fun k=>RowF w v k∧b≤k) w w':=Kept.of_blocks fun k hk hlt=>hg.block k hlt (fun e=>hk.1.2 e.symm)
 have hw: ∀k,RowF w v k∧b≤k→RowF w' v' k∧b≤k:=fun k hk=>⟨⟨Nat.lt_of_lt_of_le hk.1.1 hg.size,fun e=>by
  rcases hn with h'|h'
  ·exact hk.1.2 (by rw [←h']; exact e)
  ·rw [h'] at e; cases e; exact absurd hk.1.1 (Nat.lt_irrefl _)⟩,hk.2⟩
 refine ⟨by rw [List.flatMap_append,List.length_append]; simpa using hO,fun p hp=> ?_,fun q hq=> ?_⟩
 ·rcases List.mem_append.1 hp with hp|hp
  ·exact T.wider _ _ _ _ _ hw (T.mono _ _ _ _ _ hk (h.2.1 p hp))
  ·rw [List.mem_singleton] at hp
   subst hp
   exact T.wider _ _ _ _ _ hw (T.mono _ _ _ _ _ hk hr)
 ·rcases hn with h'|h'
  ·exact h.2.2 q (by rw [←h']; exact hq)
  ·rw [h'] at hq; cases hq; exact hb
theorem RowN.sl (h0:0<T.n) (h:RowN T w e b v ps):SL T (fun k=>b≤k∧k<w.heap.size) w v (ps.map (·.2)) :=
 OwnS.toSLp ps (fun p hp=>T.wider _ _ _ _ _ (fun _ hb=>⟨hb.2,hb.1.1⟩) (h.2.1 p hp)) h0 h.1 rfl (fun g hg=>⟨h.2.2 g hg,h.1.lt hg⟩) h.rowL.big
end
noncomputable def worldsS (d:Dist) (l:List Ev) (most:Int):List (List Int):=if dec (WfP d l)=true∧0≤most∧most≤3∧(recsS l).length≤14 then (setsS (recsS l) (min most.toNat (recsS l).length)).filter (fun S=>dec (Poss d (restS l S))) else []
noncomputable def worldsE (d:Dist) (l:List Ev) (most:Int):Int:=if dec (WfP d l)=true∧0≤most∧most≤3 then (if (recsS l).length≤14 then (if worldsS d l most= [] then 280 else 0) else 2) else 1
theorem restS_sub (l:List Ev) (S:List Int):(restS l S).Sublist l:=List.filter_sublist
theorem WfP.rest {d:Dist} {l:List Ev} (h:WfP d l) (S:List Int):Fitted d (restS l S)↔Poss d (restS l S) :=
 ⟨fun h=>h.2,fun hp=>⟨⟨h.wd,by have:=(restS_sub l S).length_le; have:=h.few; omega,fun e he=>h.each e ((restS_sub l S).subset he)⟩,hp⟩⟩
theorem worlds_c {w:World} {dv ev:Value} {d:Dist} {l:List Ev} {most:Int} (hd:SD w dv d) (hl:SE w ev l) (hne: ∀e∈l,e.needs.length≤1000) :
  Gives Tryz.prog 27 #[dv,ev,.int .i64 most] w fun x w'=>Below w.heap.size w w'∧ ∃v,x= .tuple #[v,.int .i64 (worldsE d l most)]∧SL (sliceT intT) (fun k=>k<w'.heap.size) w' v (worldsS d l most):=by
 obtain ⟨A,cap,rfl,hcap⟩:=hd.form
 obtain ⟨B,lcap,rfl,hlcap⟩:=hl.form
 refine gvM (f:=27) ?_
 refine rnT ?_
 refine TW.box rfl rfl rfl rfl ?_
 rintro g3 w1 f1
 refine TW.box rfl rfl rfl rfl ?_
 rintro g4 w2 f2
 refine rnT ?_
 have hb12:=f1.below.step f2.below
 refine TW.ld rfl ((f1.blk.next f2.below).cell 0) ?_
 refine TW.ld rfl (f2.blk.cell 0) ?_
 refine TW.cl rfl (pwell_c (sd_step hd hb12) (se_step hl hb12)) ?_
 rintro y3 w3 ⟨hb3,rfl⟩
 have hb03:=hb12.step hb3
 refine rnT ?_
 refine CW.cond rfl (fun hbad=> ?_) (fun hgood=> ?_)
 ·refine rnT ?_
  refine ret2M0 Tryz.results27 rfl rfl ⟨hb03,.slice none 0 0,?_,?_⟩
  ·unfold worldsE
   rw [if_neg]
   rintro ⟨h1,h2,h3⟩
   rw [h1] at hbad
   simp at hbad
   omega
  ·unfold worldsS
   rw [if_neg]
   ·exact SL.nil _ _ _
   rintro ⟨h1,h2,h3,_⟩
   rw [h1] at hbad
   simp at hbad
   omega
 have hW:WfP d l:=dec_iff.1 (by cases hq:dec (WfP d l)<;>simp_all)
 have hm:0≤most∧most≤3:=by
  rw [dec_pos hW] at hgood
  simp at hgood
  omega
 have hlf:=hW.few
 refine rnT ?_
 refine TW.ld rfl (((f2.blk.next hb3).cell 0)) ?_
 refine TW.cl rfl (recordsOf_c (se_step hl hb03) (by omega) hne) ?_
 rintro y4 w4 ⟨hb4,o4,q4⟩
 have hb04:=hb03.step hb4
 obtain ⟨R4,c4,rfl,hc4,_⟩:=o4.form
 have hrecI: ∀x∈recsS l,I64 x:=fun x hx=>by
  obtain ⟨e,he,hxe⟩:=mem_recsS.1 hx
  obtain ⟨i,hi,hie⟩:=List.getElem_of_mem he
  obtain ⟨ad,cs,_,_,⟨nv,_,_,_,_,hn⟩,_⟩:=hl.at (i:=i) (x:=e) (by rw [←hie]; exact List.getElem?_eq_getElem hi)
  obtain ⟨j,hj,hje⟩:=List.getElem_of_mem hxe
  exact hn.rngI (i:=j) (x:=x) (by rw [←hje]; exact List.getElem?_eq_getElem hj)
 refine rnT ?_
 refine CW.pk [0,1,2,3,4,6,7,8,29] rfl ?_
 refine CW.condP rfl (fun hbig=> ?_) (fun hsmall=> ?_)
 ·refine rnT ?_
  refine ret2M0 Tryz.results27 rfl rfl ⟨hb04,.slice none 0 0,?_,?_⟩
  ·unfold worldsE
   rw [if_pos ⟨dec_pos hW,hm⟩,if_neg (by omega)]
  ·unfold worldsS
   rw [if_neg (by rintro ⟨_,_,_,h⟩; omega)]
   exact SL.nil _ _ _
 have hsm:(recsS l).length≤14:=by omega
 refine rnT ?_
 refine TW.alloc rfl rfl zc30 ?_
 rintro g9 w5 f5
 refine rnT ?_
 refine TW.v V.minI rfl ⟨ct,ct,trivial⟩ (fun _=>trivial) ?_
 have hmin:min most ((recsS l).length:Int)=((min most.toNat (recsS l).length:Nat):Int):=by omega
 rw [hmin]
 refine TW.cl rfl (sets_c) ?_
 rintro y6 w6 ⟨hb6,gs,gl,rfl,hgs,hgl,hgs1,hgl1⟩
 have hb05:=hb04.step f5.below
 have hb06:=hb05.step hb6
 refine rnT ?_
 obtain ⟨n,hn⟩: ∃n,n=min most.toNat (recsS l).length:=⟨_,rfl⟩
 rw [←hn] at hgs
 have hsz4:=hb4.size
 have hsz3:=hb03.size
 have hsz5:=f5.below.size
 have hsz6:=hb6.size
 have hg9:=f5.at_
 have hg9s:=f5.size
 have hsl:SL intT (fun k=>(Value.slice R4 (recsS l).length c4).ownBlock=some k) w6 (.slice R4 (recsS l).length c4) (recsS l):=(OwnS.toInts (o4.below (f5.below.step hb6)) hrecI (fun g hg=>hg) (by omega))
 have hF4: ∀k,(Value.slice R4 (recsS l).length c4).ownBlock=some k→k<w4.heap.size∧w3.heap.size≤k:=fun k hk=>⟨o4.lt hk,q4 k hk⟩
 have hit:=sets_iter n hsl (fun k hk=>by have:=(hF4 k hk).1; omega) (by omega) (by omega) hgs hgl
 have hg3:=f1.at_
 have hg4:=f2.at_
 have hs1:=f1.size
 have hs2:=f2.size
 have hs3:=hb3.size
 have B3:Blk w6 g3 30 [.slice A d.length cap]:=f1.blk.next (f2.below.step (hb3.step (hb4.step (f5.below.step hb6))))
 have B4:Blk w6 g4 31 [.slice B l.length lcap]:=f2.blk.next (hb3.step (hb4.step (f5.below.step hb6)))
 have B9:Blk w6 g9 30 [.slice none 0 0]:=f5.blk.next hb6
 refine CW.rangeW rfl en150 hit rfl (fun _=>rfl)
  (fun pre M W=>Below w.heap.size w W∧w6.heap.size≤W.heap.size∧Blk W g3 30 [.slice A d.length cap]∧Blk W g4 31 [.slice B l.length lcap]∧ ∃vf ps,Blk W g9 30 [vf]∧RowN (sliceT intT) W 32 w6.heap.size vf ps∧ps.map (·.2)=(pre.map (·.2)).filter (fun S=>dec (Poss d (restS l S)))∧M=fun k=>k=g9∨vf.ownBlock=some k)
  (fun c pre M W=>False) (fun k=>k=g9) ?_ ?_ ?_ (fun _ _ _ _ _ h _=>h) ?_ ?_ ?_ ?_
 ·rintro k rfl
  refine ⟨by omega,?_⟩
  rintro (rfl|rfl|h)
  ·omega
  ·omega
  ·have:=hF4 _ h; omega
 ·rintro k (rfl|rfl|h)
  ·exact hgs.lt
  ·exact hgl.lt
  ·have:=hF4 k h; omega
 ·rintro pre M W1 W2 ⟨a1,a2,a3,a4,vf,ps,a5,a6,a7,a8⟩ hx
  exact ⟨(hx.less (by omega)).below a1 (Nat.le_refl _),Nat.le_trans a2 hx.size,a3.ext hx,a4.ext hx,vf,ps,a5.ext hx,a6.ext hx,a7,a8⟩
 ·exact ⟨hb06,Nat.le_refl _,B3,B4,.slice none 0 0,[],B9,RowN.nil _ _ _ _,rfl,by funext k; simp [Value.ownBlock]⟩
 ·rintro D L pre ⟨xv,xl⟩ M W hD hL ⟨a1,a2,a3,a4,vf,ps,a5,a6,a7,rfl⟩ ⟨⟨suf,hsuf⟩,hxs⟩ hMlt hML hMD hrec
  dsimp only at hsuf hxs
  obtain ⟨Ax,cx,rfl,_⟩:=hxs.form
  have hps:ps.length≤3375:=by
   have e1:ps.length=(ps.map (·.2)).length:=by simp
   rw [e1,a7]
   have e2:=List.length_filter_le (fun S=>dec (Poss d (restS l S))) (pre.map (·.2))
   have e3:=setsS_len (recsS l) n
   rw [hsuf] at e3
   simp at e3 e2
   have e4:((recsS l).length+1) ^ n≤15 ^ n:=Nat.pow_le_pow_left (by omega) n
   have e5:15 ^ n≤15 ^ 3:=Nat.pow_le_pow_right (by omega) (by omega)
   simp
   omega
  refine rnT ?_
  refine KW.begin hrec fun W2 hx2 hsz2 hk2 hrec2=> ?_
  have a1':Below w.heap.size w W2:=(hx2.less (by omega)).below a1 (Nat.le_refl _)
  have a3':=a3.ext hx2
  have a4':=a4.ext hx2
  have a5':=a5.ext hx2
  have a6':=a6.ext hx2
  have hxs':=hxs.ext hx2
  refine rnT ?_
  refine CW.draw mixed (by kernel_rfl) ?_
  refine DW.ld rfl (a3'.cell 0) ?_
  refine DW.ld rfl (a4'.cell 0) ?_
  refine rnD ?_
  refine DW.cl (.pr (fun u W=>SE W u (restS l xl))) ?_ rfl (fun _ w' hb'=>rest_c (se_step hl (a1'.step hb')) (hxs'.below hb') (by omega) (fun e he=>by have:=hne e he; omega)) ?_
  ·exact fun _ _ _ hb h=>se_step h hb
  refine DW.callP (.pr fun u _=> ∃v,u= .tuple #[v,.bool (dec (Fitted d (restS l xl)))]) (Ent.mono_pure _) rfl rfl en33 rfl ct (PArgs.cons rfl ct (PArgs.cons rfl ct (PArgs.cons rfl ct PArgs.nil))) (fun _ w' hb' vs hs=> ?_) ?_
  ·obtain ⟨_,u,_,rfl,rfl,hu,rfl⟩:=Sats.three hs
   exact (fit_c (sd_step hd (a1'.step hb')) hu).mono fun x w'' ⟨h1,h2⟩=>⟨h1,h2⟩
  refine DW.moveP rfl rfl rfl ct (Ent.mono_pure _) ?_
  refine DW.extractP (fun _ _=>True) rfl rfl rfl ct (Ent.mono_pure _) (fun u w' ⟨v',h1⟩=>⟨_,v',h1,rfl,trivial⟩) ?_
  refine DW.extractP (fun u _=>u= .bool (dec (Fitted d (restS l xl)))) rfl rfl rfl ct (Ent.mono_pure _) (fun u w' ⟨v',h1⟩=>⟨_,_,h1,rfl,rfl⟩) ?_
  refine DW.assignP rfl rfl rfl ct (Ent.mono_pure _) ?_
  refine DW.assignP rfl rfl rfl ct (Ent.mono_pure _) ?_
  refine DW.nil (DW.finP [9,10,12] rfl fun vs W3 hb3 hs3=>KW.then_ ?_)
  obtain ⟨v9,v10,v12,rfl,h9,h10,h12⟩:=Sats.three hs3
  refine rnT ?_
  refine CW.pk [9,10,12,45] rfl ?_
  cases h9
  cases h10
  obtain rfl:v12=_:=h12
  rw [dec_congr (hW.rest xl)]
  have hL2:L<W2.heap.size:=hrec2.lt
  have rec3:W3.heap[L]?=W2.heap[L]?:=hb3.block L hL2
  have s3:=hb3.size
  have a1'':=a1'.step hb3
  have a5'':=a5'.next hb3
  have a6'':=a6'.step hb3
  have hxs'':=hxs'.below hb3
  have hvlt: ∀q,vf.ownBlock=some q→w6.heap.size≤q∧q<W2.heap.size:=fun q hq=>⟨a6'.2.2 q hq,a6'.1.lt hq⟩
  have hLv:vf.ownBlock≠some L:=fun e=>hML (.inr e)
  have hDv:vf.ownBlock≠some D:=fun e=>hMD (.inr e)
  have hLg:L≠g9:=fun e=>hML (.inl e)
  have hDg:D≠g9:=fun e=>hMD (.inl e)
  refine CW.cond rfl (fun hyes=> ?_) (fun hno=> ?_)
  ·refine CW.region ?_
   refine TW.ld rfl (a5''.cell 0) ?_
   refine rnT ?_
   refine TW.buildSlice 32 _ rfl rfl rfl eo30 (Args.cons rfl ct Args.nil) rfl rfl rfl rfl rfl ?_
   rintro g48 w7 f7
   have o7:=a6''.1.below f7.below
   refine TW.append [.slice Ax xl.length cx] rfl rfl go30 rfl o7 rfl rfl (fun j v hj=>⟨⟨g48,0,none⟩,rfl,f7.blk.fld hj⟩) (fun v hv=>by simp at hv; subst hv; rfl) (by omega) (by omega) ?_
   rintro vf' w8 o8 hg8 hn8
   have s7:=f7.below.size
   have s8:=hg8.size
   have b8:Blk w8 g9 30 [vf]:=Blk.keptO (a5''.next f7.below) hg8 (fun e=>by have:=hvlt _ e; omega)
   obtain ⟨A8,c8,hv8,_⟩:=o8.form
   have h18:vf'.oneCell'=true:=by rw [hv8]; rfl
   refine TW.store1 rfl sz30 rfl rfl (b8.cell 0) (b8.frozen 0) h18 ?_
   refine rnT ?_
   have r8:RowN (sliceT intT) w8 32 w6.heap.size vf' (ps++ [([.slice Ax xl.length cx],xl)]):=by
    refine RowN.app (a6''.step f7.below) o8 hg8 hn8 ⟨_,rfl,?_⟩ (by omega)
    refine ((hxs''.below f7.below).nb intT_nb).wider fun k hk=>⟨⟨hk.2,fun e=>hk.1.2 (.inr e)⟩,hk.1.1⟩
   have r9:=r8.setCell (g:=g9) (i:=0) (by omega) vf'
   have hnew: ∀q,vf'.ownBlock=some q→vf.ownBlock=some q∨q=w7.heap.size:=fun q hq=>by
    rcases hn8 with h|h
    ·exact .inl (by rw [←h]; exact hq)
    ·rw [h] at hq; cases hq; exact .inr rfl
   have rec8:w8.heap[L]?=W2.heap[L]?:=(hg8.block L (by omega) (fun e=>hLv e.symm)).trans ((f7.below.block L (by omega)).trans rec3)
   have kept8: ∀k,k<W.heap.size→ ¬(k=g9∨vf.ownBlock=some k)→k≠L→w8.heap[k]?=W.heap[k]?:=fun k h1 h2 h3 =>
    (hg8.block k (by omega) (fun e=>h2 (.inr e.symm))).trans ((f7.below.block k (by omega)).trans ((hb3.block k (by omega)).trans (hk2 k h3)))
   have hb08:Below w.heap.size w w8:=(a1''.step f7.below).grown hg8 (a1''.step f7.below).size (fun q hq=>by have:=hvlt q hq; omega)
   have b38:Blk w8 g3 30 [.slice A d.length cap]:=Blk.keptO ((a3'.next hb3).next f7.below) hg8 (fun e=>by have:=hvlt _ e; omega)
   have b48:Blk w8 g4 31 [.slice B l.length lcap]:=Blk.keptO ((a4'.next hb3).next f7.below) hg8 (fun e=>by have:=hvlt _ e; omega)
   refine KW.endN (hrec2.kept ((Below.heap_setCell _ _ _ _ (by show L≠g9; exact hLg)).trans rec8)) fun W9 hx9 hsz9 hk9 hrec9=> ?_
   have hs9:W9.heap.size=w8.heap.size:=by rw [hsz9]; simp
   refine ⟨by omega,fun k h1 h2 h3=>(hk9 k h3).trans ((Below.heap_setCell _ _ _ _ (fun e=>h2 (.inl e))).trans (kept8 k h1 h2 h3)),fun _=>⟨fun k=>k=g9∨vf'.ownBlock=some k,⟨⟨(hx9.less (by omega)).below (hb08.setCell (by show w.heap.size≤g9; omega) _) (Nat.le_refl _),by omega,(b38.far (by show g3≠g9; omega) vf').ext hx9,(b48.far (by show g4≠g9; omega) vf').ext hx9,vf',_,(b8.set 0 vf').ext hx9,r9.ext hx9,?_,rfl⟩,?_,?_,hrec9⟩,fun k hk=> ?_⟩,fun h=>by cases h⟩
   ·rw [List.map_append,a7,List.map_append,List.filter_append]
    simp [hyes]
   ·rintro (h|h)
    ·exact hLg h
    ·rcases hnew L h with h|h
     ·exact hLv h
     ·omega
   ·rintro (h|h)
    ·exact hDg h
    ·rcases hnew D h with h|h
     ·exact hDv h
     ·omega
   ·rcases hk with rfl|hk
    ·exact ⟨.inl (.inl rfl),by omega⟩
    ·rcases hnew k hk with h|h
     ·exact ⟨.inl (.inr h),by have:=hvlt k h; omega⟩
     ·refine ⟨.inr (by omega),?_⟩
      have:=o8.lt hk
      omega
  ·refine rnT ?_
   refine KW.endN (hrec2.kept rec3) fun W8 hx8 hsz8 hk8 hrec8=> ?_
   refine ⟨by omega,fun k h1 h2 h3=>(hk8 k h3).trans ((hb3.block k (by omega)).trans (hk2 k h3)),fun _=>⟨fun k=>k=g9∨vf.ownBlock=some k,⟨⟨(hx8.less (by omega)).below a1'' (Nat.le_refl _),by omega,(a3'.next hb3).ext hx8,(a4'.next hb3).ext hx8,vf,ps,a5''.ext hx8,a6''.ext hx8,?_,rfl⟩,hML,hMD,hrec8⟩,fun k hk=> ?_⟩,fun h=>by cases h⟩
   ·rw [a7]
    simp [List.filter_append,hno]
   ·refine ⟨.inl hk,?_⟩
    rcases hk with rfl|hk
    ·omega
    ·have:=hvlt k hk; omega
 ·rintro D xs M W hD hdone ⟨a1,a2,a3,a4,vf,ps,a5,a6,a7,rfl⟩ hMD hdef
  have hdone':xs.map (·.2)=setsS (recsS l) n:=hdone
  obtain ⟨Av,cv,hv⟩:=a6.rowL.form
  subst hv
  have hws:worldsS d l most=ps.map (·.2):=by
   unfold worldsS
   rw [if_pos ⟨dec_pos hW,hm.1,hm.2,hsm⟩,a7,hdone',hn]
  have hDn:D<W.heap.size:=(Array.getElem?_eq_some_iff.1 hdef).1
  have hput:ExtF w6.heap.size W (W.putObj D (.deferred none)):=ExtF.putObj hdef rfl hD
  have hBp:Below w.heap.size w (W.putObj D (.deferred none)):=Below.putCtl a1 (by omega)
  refine KW.blockN (KW.then_ ?_)
  refine rnT ?_
  refine TW.ld rfl (a5.cell 0) ?_
  refine rnT ?_
  refine CW.condP rfl (fun hz=> ?_) (fun hnz=> ?_)
  ·refine rnT ?_
   refine ret2M Tryz.results27 rfl rfl hdef ⟨hBp,.slice none 0 0,?_,?_⟩
   ·unfold worldsE
    rw [if_pos ⟨dec_pos hW,hm⟩,if_pos hsm,if_pos]
    rw [hws,List.map_eq_nil_iff,←List.length_eq_zero_iff]
    omega
   ·rw [hws,show ps= [] from List.length_eq_zero_iff.1 (by omega)]
    exact SL.nil _ _ _
  ·refine rnT ?_
   refine TW.ld rfl (a5.cell 0) ?_
   refine rnT ?_
   refine ret2M Tryz.results27 rfl rfl hdef ⟨hBp,.slice Av ps.length cv,?_,?_⟩
   ·unfold worldsE
    rw [if_pos ⟨dec_pos hW,hm⟩,if_pos hsm,if_neg]
    rw [hws,List.map_eq_nil_iff,←List.length_eq_zero_iff]
    omega
   ·rw [hws]
    exact ((a6.ext hput).sl (by show 0<1; omega)).wider fun _ h=>h.2
 ·rintro D c pre M W hD h
  exact h.elim
end Go.Proofs.YtobaafdejnimkaaGreatDoor
namespace Go.Proofs.YtobaafdejnimkaaGreatDoor
open Go.PF Go.RowKit Go.Ord
attribute [local irreducible] TW CW KW DW
variable {w:World} {v u:Value} {k:Nat} {d:Dist} {l:List Ev}
def Upto {α:Type} (p:α→Prop) (l:List α) (k:Nat):Prop:= ∀(i:Nat) (e:α),i<k→l[i]?=some e→p e
theorem Upto.zero {α:Type} {p:α→Prop} {l:List α}:Upto p l 0:=fun i e hi=>by omega
theorem Upto.succ {α:Type} {p:α→Prop} {l:List α} {x:α} (h:Upto p l k) (hx:l[k]?=some x) (hp:p x):Upto p l (k+1):=fun i e hi he=>by
 rcases Nat.lt_or_ge i k with h'|h'
 ·exact h i e h' he
 ·obtain rfl:i=k:=by omega
  rw [hx] at he; cases he
  exact hp
theorem Upto.all {α:Type} {p:α→Prop} {l:List α} (h:Upto p l k) (hk:l.length≤k): ∀e∈l,p e:=fun e he=>by
 obtain ⟨i,hi,hie⟩:=List.getElem_of_mem he
 exact h i e (by omega) (by rw [←hie]; exact List.getElem?_eq_getElem hi)
theorem getx {α:Type} {l:List α} (h:k<l.length): ∃x,l[k]?=some x∧x∈l:=⟨l[k],List.getElem?_eq_getElem h,List.getElem_mem h⟩
abbrev SI (w:World) (v:Value) (l:List Int):Prop:=SL intT (fun k=>k<w.heap.size) w v l
theorem si_step {w':World} {l:List Int} (h:SI w v l) (hb:Below w.heap.size w w'):SI w' v l:=h.step intT_now hb
structure FewD (d:Dist) (l:List Ev) (o m:Int):Prop where
 d1:(d.length:Int)≤o
 l1:(l.length:Int)≤m
 r1: ∀r∈d,(r.length:Int)≤o
theorem rfew27_c {F G:Nat→Prop} {o m:Int} (hd:SL (sliceT intT) F w v d) (hl:SL evT G w u l):Gives Tryz.prog 92 #[v,u,.int .i64 o,.int .i64 m] w fun x w'=>Below w.heap.size w w'∧x= .bool (dec (FewD d l o m)):=by
 obtain ⟨A,cap,rfl,_⟩:=hd.form
 obtain ⟨B,bcap,rfl,_⟩:=hl.form
 have hmax:d.length≤9223372036854775807:=hd.len.2.2
 refine gv (f:=92) ?_
 refine rnT ?_
 refine CW.cond rfl (fun hbad=> ?_) (fun hgood=> ?_)
 ·refine rnT ?_
  refine rt1 rfl ⟨Below.refl _ _,by rw [dec_neg (fun h=>by have:=h.d1; have:=h.l1; simp at hbad; omega)]⟩
 have hg:(d.length:Int)≤o∧(l.length:Int)≤m:=by simp at hgood; omega
 refine rnT ?_
 refine CW.lp [0,2] (fun k:Nat=> [(9,none,.int .i64 (k:Int))])
  (fun k W=>k≤d.length∧W=w∧Upto (fun r:List Int=>(r.length:Int)≤o) d k) (fun k=>d.length-k) 0 ⟨by omega,rfl,Upto.zero⟩ ?_
 rintro k W ⟨hk,rfl,hup⟩
 refine rnT ?_
 refine CW.pk [0,2,9,23] rfl ?_
 refine CW.condP rfl (fun hlt=> ?_) (fun hge=> ?_)
 ·obtain ⟨x,hx,hxm⟩:=getx (l:=d) (k:=k) (by omega)
  obtain ⟨ad,rfl⟩:=hd.addr (by omega)
  obtain ⟨rv,hcell,hrow⟩:=hd.row hx
  obtain ⟨C,ccap,rfl,_⟩:=hrow.form
  refine rnT ?_
  refine TW.ld rfl hcell ?_
  refine rnT ?_
  refine CW.condP rfl (fun he=> ?_) (fun hn=> ?_)
  ·refine rnT ?_
   refine rt1 rfl ⟨Below.refl _ _,by rw [dec_neg (fun h=>by have:=h.r1 x hxm; omega)]⟩
  refine rnT ?_
  refine KW.rd (k+1) ⟨by omega,rfl,hup.succ hx (by omega)⟩
 ·refine rnT ?_
  refine rt1 rfl ⟨Below.refl _ _,by rw [dec_pos ⟨hg.1,hg.2,hup.all (by omega)⟩]⟩
structure FewP (d:Dist) (l:List Ev):Prop where
 fd:FewD d l 5 8
 nd: ∀e∈l,e.needs.length≤6
theorem rfew28_c {F G:Nat→Prop} (hd:SL (sliceT intT) F w v d) (hl:SL evT G w u l):Gives Tryz.prog 35 #[v,u] w fun x w'=>Below w.heap.size w w'∧x= .bool (dec (FewP d l)):=by
 obtain ⟨A,cap,rfl,_⟩:=hd.form
 obtain ⟨B,bcap,rfl,_⟩:=hl.form
 have hmax:l.length≤9223372036854775807:=hl.len.2.2
 refine gv (f:=35) ?_
 refine rnT ?_
 refine CW.lp [0,1] (fun k:Nat=> [(5,none,.int .i64 (k:Int))])
  (fun k W=>k≤l.length∧W=w∧Upto (fun e:Ev=>e.needs.length≤6) l k) (fun k=>l.length-k) 0 ⟨by omega,rfl,Upto.zero⟩ ?_
 rintro k W ⟨hk,rfl,hup⟩
 refine rnT ?_
 refine CW.condP rfl (fun hlt=> ?_) (fun hge=> ?_)
 ·obtain ⟨x,hx,hxm⟩:=getx (l:=l) (k:=k) (by omega)
  obtain ⟨ad,rfl⟩:=hl.addr (by omega)
  obtain ⟨nx,cx,_,_,_,hnx⟩:=SE.get hl hx
  obtain ⟨C,ccap,rfl,_⟩:=hnx.form
  refine rnT ?_
  refine TW.ld rfl (cx 3 _ rfl) ?_
  refine rnT ?_
  refine CW.pk [0,1,5,18] rfl ?_
  refine CW.condP rfl (fun he=> ?_) (fun hn=> ?_)
  ·refine rnT ?_
   refine rt1 rfl ⟨Below.refl _ _,by rw [dec_neg (fun h=>by have:=h.nd x hxm; omega)]⟩
  refine rnT ?_
  refine KW.rd (k+1) ⟨by omega,rfl,hup.succ hx (by omega)⟩
 ·refine rnT ?_
  refine TW.cl rfl (rfew27_c hd hl) ?_
  rintro y w1 ⟨hb1,rfl⟩
  refine rnT ?_
  refine rt1 rfl ⟨hb1,by rw [dec_congr (show FewD d l 5 8↔FewP d l from ⟨fun h=>⟨h,hup.all (by omega)⟩,fun h=>h.fd⟩)]⟩
theorem rvalid27_c (hd:SD w v d) (hl:SE w u l):Gives Tryz.prog 96 #[v,u,.slice none 0 0] w fun x w'=>Below w.heap.size w w'∧x= .bool (dec (WfE d l)):=by
 obtain ⟨A,cap,rfl,_⟩:=hd.form
 obtain ⟨B,bcap,rfl,_⟩:=hl.form
 have hmax:l.length≤9223372036854775807:=hl.len.2.2
 refine gv (f:=96) ?_
 refine rnT ?_
 refine TW.cl rfl (rdistances_c hd) ?_
 rintro y w1 ⟨hb1,rfl⟩
 refine rnT ?_
 refine CW.pk [0,1,2,6,18] rfl ?_
 refine CW.cond rfl (fun hbad=> ?_) (fun hgood=> ?_)
 ·refine rnT ?_
  refine rt1 rfl ⟨hb1,by rw [dec_neg (fun h=>by simp [dec_pos h.wd] at hbad; have:=h.few; omega)]⟩
 have hwd:WfD d:=dec_iff.1 (by cases hq:dec (WfD d)<;>simp_all)
 have hfew:l.length≤16:=by simp [dec_pos hwd] at hgood; omega
 refine rnT ?_
 refine TW.makeSlice rfl rfl (zero1_of go134 ze4 rfl) rfl rfl (by omega) (by omega) ?_
 rintro g2 w2 f2
 refine rnT ?_
 have hb02:=hb1.step f2.below
 refine CW.lp [0,1,2] (fun k:Nat=> [(8,none,.int .i64 (k:Int))])
  (fun k W=>k≤l.length∧W=w2∧Upto (EOK d) l k) (fun k=>l.length-k) 0 ⟨by omega,rfl,Upto.zero⟩ ?_
 rintro k W ⟨hk,rfl,hup⟩
 have hl2:=hl.below hb02
 refine rnT ?_
 refine CW.condP rfl (fun hlt=> ?_) (fun hge=> ?_)
 ·obtain ⟨x,hx,hxm⟩:=getx (l:=l) (k:=k) (by omega)
  obtain ⟨ad,rfl⟩:=hl2.addr (by omega)
  obtain ⟨nx,cx,_,_,_,hnx⟩:=SE.get hl2 hx
  refine rnT ?_
  refine TW.ld rfl (cx 0 _ rfl) ?_
  refine rnT ?_
  refine TW.ld rfl (cx 0 _ rfl) ?_
  refine rnT ?_
  refine CW.pk [0,1,2,8,43] rfl ?_
  refine CW.cond rfl (fun he=> ?_) (fun hn=> ?_)
  ·refine rnT ?_
   refine rt1 rfl ⟨hb02,by rw [dec_neg (fun h=>by have h1:=(h.each x hxm).o1; have h2:=(h.each x hxm).o2; simp at he; omega)]⟩
  refine rnT ?_
  refine KW.rd (k+1) ⟨by omega,rfl,hup.succ hx (by simp at hn; exact ⟨by omega,by omega⟩)⟩
 ·refine rnT ?_
  refine CW.loopS (fun _:Unit=> [(2,none,.slice none 0 0),(9,none,.int .i64 0)]) (fun _ W'=>W'=W) (fun k=>0) () [2,9] rfl rfl ?_
  rintro _ W' rfl
  refine rnT ?_
  refine CW.condP rfl (fun hlt2=> ?_) (fun hge2=> ?_)
  ·exfalso
   omega
  ·refine rnT ?_
   refine rt1 rfl ⟨hb02,by rw [dec_pos ⟨hwd,hfew,hup.all (by omega)⟩]⟩
def lexS:List Int→List Int→Bool
 | x::a,y::b=>if x=y then lexS a b else decide (x<y)
 | _,_=>false
end Go.Proofs.YtobaafdejnimkaaGreatDoor
namespace Go.Proofs.YtobaafdejnimkaaGreatDoor
open Go.PF Go.RowKit Go.Ord
variable {d:Dist} {l r l':List Ev} {t most o f:Int} {b S:List Int} {N:Net} {ws:List (List Int)} {rs:List (List Ev)} {k:Knd}
theorem _root_.Go.PF.SL.allI {F:Nat→Prop} {w:World} {v:Value} {l:List Int} (h:SL intT F w v l): ∀x∈l,I64 x:=fun x hx=>by
 obtain ⟨j,hj,hje⟩:=List.getElem_of_mem hx
 exact h.rngI (i:=j) (x:=x) (by rw [←hje]; exact List.getElem?_eq_getElem hj)
theorem sub_extend {α:Type}: ∀ {l t:List α},t.Sublist l→ ∀n,t.length≤n→n≤l.length→ ∃b,t.Sublist b∧b.Sublist l∧b.length=n
 | [],t,h,n,h1,h2=>⟨[],by simpa using h,List.Sublist.refl _,by simp at h2; simp [h2]⟩
 | x::l,t,h,n,h1,h2=>by
  cases h with
  | cons _ h =>
   by_cases hn:n≤l.length
   ·obtain ⟨b,q1,q2,q3⟩:=sub_extend h n h1 hn
    exact ⟨b,q1,q2.cons x,q3⟩
   ·simp at h2
    exact ⟨x::l,h.cons x,List.Sublist.refl _,by simp; omega⟩
  | cons_cons _ h =>
   rename_i t'
   simp at h1 h2
   obtain ⟨b,q1,q2,q3⟩:=sub_extend h (n-1) (by omega) (by omega)
   exact ⟨x::b,q1.cons_cons x,q2.cons_cons x,by simp; omega⟩
theorem gone_iff {e:Ev}:gone S e=true↔ ∃r∈e.needs,r∈S:=by
 unfold gone
 simp
theorem rest_less {T:List Int} (h: ∀e∈l,gone S e=true→gone T e=true):(restS l T).Sublist (restS l S):=by
 unfold restS
 have e1:l.filter (fun e=> !gone T e)=(l.filter (fun e=> !gone S e)).filter (fun e=> !gone T e):=by
  rw [List.filter_filter]
  refine List.filter_congr fun e he=> ?_
  cases h1:gone S e with
  | false=>simp
  | true=>simp [h e he h1]
 rw [e1]
 exact List.filter_sublist
structure WOK (d:Dist) (l:List Ev) (most:Int):Prop where
 wf:WfP d l
 m0:0≤most
 m3:most≤3
 rl:(recsS l).length≤14
theorem WOK.eq (h:WOK d l most):worldsS d l most=(setsS (recsS l) (min most.toNat (recsS l).length)).filter (fun S=>dec (Poss d (restS l S))):=by
 unfold worldsS
 rw [if_pos ⟨dec_pos h.wf,h.m0,h.m3,h.rl⟩]
theorem WOK.mem (h:WOK d l most):b∈worldsS d l most↔b.Sublist (recsS l)∧b.length=min most.toNat (recsS l).length∧Poss d (restS l b):=by
 rw [h.eq,List.mem_filter,mem_setsS,dec_iff,and_assoc]
theorem WOK.err (h:WOK d l most):worldsE d l most=if worldsS d l most= [] then 280 else 0:=by
 unfold worldsE
 rw [if_pos ⟨dec_pos h.wf,h.m0,h.m3⟩,if_pos h.rl]
theorem WOK.ok (h:WOK d l most) (hb:b∈worldsS d l most):worldsE d l most=0:=by
 rw [h.err,if_neg (fun e=>by rw [e] at hb; cases hb)]
theorem WOK.has (h:WOK d l most) {s:List Int} (hs:(s.length:Int)≤most) (hp:Poss d (restS l s)): ∃b∈worldsS d l most,∀x∈s.filter (fun y=>decide (y∈recsS l)),x∈b:=by
 have hm:=h.m0
 have hnd:(recsS l).Nodup:=(recsS_inc l).nodup
 have hsub:((recsS l).filter fun y=>decide (y∈s)).Sublist (recsS l):=List.filter_sublist
 have hle:((recsS l).filter fun y=>decide (y∈s)).length≤s.length:=nodup_len (hnd.sublist hsub) (fun x hx=>by
  have:=(List.mem_filter.1 hx).2
  simpa using this)
 have hle2:=hsub.length_le
 obtain ⟨b,q1,q2,q3⟩:=sub_extend hsub (min most.toNat (recsS l).length) (by omega) (by omega)
 have hin: ∀x∈s,x∈recsS l→x∈b:=fun x h1 h2=>q1.subset (List.mem_filter.2 ⟨h2,by simpa using h1⟩)
 refine ⟨b,h.mem.2 ⟨q2,q3,hp.sub (rest_less fun e he hg=> ?_)⟩,fun x hx=> ?_⟩
 ·obtain ⟨r,hr,hrs⟩:=gone_iff.1 hg
  exact gone_iff.2 ⟨r,hr,hin r hrs (mem_recsS.2 ⟨e,he,hr⟩)⟩
 ·obtain ⟨h1,h2⟩:=List.mem_filter.1 hx
  exact hin x h1 (by simpa using h2)
theorem WfP.sub (h:WfP d l) (hs:l'.Sublist l):WfP d l' :=
 ⟨h.wd,by have:=hs.length_le; have:=h.few; omega,fun e he=>h.each e (hs.subset he),fun e he=>h.pos e (hs.subset he)⟩
theorem recs_sub (hs:l'.Sublist l): ∀x∈recsS l',x∈recsS l:=fun x hx=>by
 obtain ⟨e,he,hxe⟩:=mem_recsS.1 hx
 exact mem_recsS.2 ⟨e,hs.subset he,hxe⟩
theorem WOK.sub {d:Dist} {l l':List Ev} {most:Int} (h:WOK d l most) (hs:l'.Sublist l):WOK d l' most :=
 ⟨h.wf.sub hs,h.m0,h.m3,by have:=nodup_len (recsS_inc l').nodup (recs_sub hs); have:=h.rl; omega⟩
theorem WOK.len (h:WOK d l most) (hb:b∈worldsS d l most):(b.length:Int)≤most:=by
 have:=(h.mem.1 hb).2.1
 have:=h.m0
 omega
theorem WOK.more (h:WOK d l most) (h3:most<3) (hb:b∈worldsS d l most): ∃c∈worldsS d l (most+1),∀x∈b,x∈c:=by
 have hw:WOK d l (most+1):=⟨h.wf,by have:=h.m0; omega,by omega,h.rl⟩
 obtain ⟨q1,q2,q3⟩:=h.mem.1 hb
 obtain ⟨c,hc,hin⟩:=hw.has (s:=b) (by have:=h.len hb; omega) q3
 exact ⟨c,hc,fun x hx=>hin x (List.mem_filter.2 ⟨hx,by simpa using q1.subset hx⟩)⟩
theorem WOK.inc (h:WOK d l most) (hb:b∈worldsS d l most):Inc b:=(recsS_inc l).sublist (h.mem.1 hb).1
theorem wfe_at {f' t':Int} (h:WfE d (r++ [vis o f t])):WfE d (r++ [vis o f' t']) :=
 ⟨h.wd,by have:=h.few; simpa using this,fun e he=>by
  rcases List.mem_append.1 he with he|he
  ·exact h.each e (List.mem_append_left _ he)
  ·rw [List.mem_singleton] at he
   subst he
   have:=h.each (vis o f t) (by simp)
   exact ⟨this.o1,this.o2⟩⟩
def WfV (d:Dist) (r:List Ev) (o:Int):Prop:=WfE d (r++ [vis o 0 0])
theorem at_iff:(Knd.at o f t).b d r=true↔WfV d r o∧ ∃τ,f≤τ∧τ≤t∧PV d r o τ:=by
 show dec (Fitted d (r++ [vis o f t]))=true↔_
 rw [dec_iff]
 unfold Fitted
 rw [poss_vis]
 exact ⟨fun h=>⟨wfe_at h.1,h.2⟩,fun h=>⟨wfe_at h.1,h.2⟩⟩
theorem can_iff:canB d rs k=true↔ ∃r∈rs,k.b d r=true:=by
 unfold canB
 rw [List.any_eq_true]
theorem bool_ext {a b:Bool} (h:a=true↔b=true):a=b:=by cases a<;>cases b<;>simp_all
theorem can_wider {f' t':Int} (h1:f'≤f) (h2:t≤t') (h:canB d rs (.at o f t)=true):canB d rs (.at o f' t')=true:=by
 obtain ⟨r,hr,h⟩:=can_iff.1 h
 obtain ⟨hw,τ,a1,a2,hp⟩:=at_iff.1 h
 exact can_iff.2 ⟨r,hr,at_iff.2 ⟨hw,τ,by omega,by omega,hp⟩⟩
theorem WfE.sub (h:WfE d l) (hs:l'.Sublist l):WfE d l':=⟨h.wd,Nat.le_trans hs.length_le h.few,fun e he=>h.each e (hs.subset he)⟩
theorem knd_sub {r':List Ev} (hs:r'.Sublist r) (h:k.b d r=true):k.b d r'=true:=by
 cases k with
 | «at» o f t =>
  obtain ⟨hw,τ,a1,a2,hp⟩:=at_iff.1 h
  exact at_iff.2 ⟨WfE.sub hw (hs.append (List.Sublist.refl _)),τ,a1,a2,hp.sub hs⟩
 | on l t =>
  have h:dec (FittedJ d (r++ [lvE l t,arE l t]) r (lvE l t) (arE l t) l.trav)=true:=h
  have h:=dec_iff.1 h
  exact dec_iff.2 ⟨WfE.sub h.1 (hs.append (List.Sublist.refl _)),h.2.sub hs⟩
theorem rest_app (l m:List Ev) (S:List Int):restS (l++m) S=restS l S++restS m S:=by unfold restS; rw [List.filter_append]
theorem can_more {e:Ev} (h:canB d (restsS (l++ [e]) ws) k=true):canB d (restsS l ws) k=true:=by
 obtain ⟨r,hr,h⟩:=can_iff.1 h
 obtain ⟨S,hS,rfl⟩:=List.mem_map.1 hr
 rw [rest_app] at h
 exact can_iff.2 ⟨_,List.mem_map_of_mem hS,knd_sub (List.sublist_append_left _ _) h⟩
theorem mem_offPl {n:Nat} {p:Spt×Knd}:p∈offPl n t↔ ∃i:Nat,i<n∧p=(((i:Int),-1),.at i t t):=by
 unfold offPl
 rw [List.mem_map]
 constructor
 ·rintro ⟨i,hi,rfl⟩; exact ⟨i,List.mem_range.1 hi,rfl⟩
 ·rintro ⟨i,hi,rfl⟩; exact ⟨i,List.mem_range.2 hi,rfl⟩
theorem mem_linPl {ls:List Li} {p:Spt×Knd}:p∈linPl ls t↔ ∃(i:Nat) (l:Li),ls[i]?=some l∧p=((-1,(i:Int)),.on l t):=by
 unfold linPl
 rw [List.mem_mapIdx]
 constructor
 ·rintro ⟨i,hi,rfl⟩; exact ⟨i,ls[i],List.getElem?_eq_getElem hi,rfl⟩
 ·rintro ⟨i,l,hl,rfl⟩
  obtain ⟨hi,he⟩:=List.getElem?_eq_some_iff.1 hl
  exact ⟨i,hi,by rw [he]⟩
structure SpOK (N:Net) (s:Spt):Prop where
 is:(s.2= -1∧0≤s.1∧s.1<N.offs.length)∨(s.1= -1∧0≤s.2∧s.2<N.lines.length)
def SpLt (a b:Spt):Prop:=(b.2= -1∧a.2= -1∧a.1<b.1)∨(b.1= -1∧0≤b.2∧a.2<b.2)
theorem pls_ok: ∀p∈plsS N t,SpOK N p.1:=fun p hp=>by
 rcases List.mem_append.1 hp with hp|hp
 ·obtain ⟨i,hi,rfl⟩:=mem_offPl.1 hp
  exact ⟨.inl ⟨rfl,by show (0:Int)≤i; omega,by show (i:Int)<_; omega⟩⟩
 ·obtain ⟨i,l,hi,rfl⟩:=mem_linPl.1 hp
  have:=(List.getElem?_eq_some_iff.1 hi).1
  exact ⟨.inr ⟨rfl,by show (0:Int)≤i; omega,by show (i:Int)<_; omega⟩⟩
theorem pls_lt:(plsS N t).Pairwise fun a b=>SpLt a.1 b.1:=by
 unfold plsS
 refine List.pairwise_append.2 ⟨?_,?_,fun a ha b hb=> ?_⟩
 ·unfold offPl
  rw [List.pairwise_map]
  exact List.pairwise_lt_range.imp fun {i j} h=> .inl ⟨rfl,rfl,by show (i:Int)<j; omega⟩
 ·rw [List.pairwise_iff_getElem]
  intro i j hi hj hij
  have hi':i<N.lines.length:=by rw [linPl_len] at hi; exact hi
  have hj':j<N.lines.length:=by rw [linPl_len] at hj; exact hj
  have e1:=(List.getElem?_eq_some_iff.1 (linPl_at (t:=t) (List.getElem?_eq_getElem hi'))).2
  have e2:=(List.getElem?_eq_some_iff.1 (linPl_at (t:=t) (List.getElem?_eq_getElem hj'))).2
  rw [e1,e2]
  exact .inr ⟨rfl,by show (0:Int)≤j; omega,by show (i:Int)<j; omega⟩
 ·obtain ⟨i,hi,rfl⟩:=mem_offPl.1 ha
  obtain ⟨j,l,hj,rfl⟩:=mem_linPl.1 hb
  exact .inr ⟨rfl,by show (0:Int)≤j; omega,by show (-1:Int)<j; omega⟩
theorem spots_ok:(∀s∈spotsS N d rs t,SpOK N s)∧(spotsS N d rs t).Pairwise SpLt:=by
 unfold spotsS
 refine ⟨fun s hs=> ?_,?_⟩
 ·obtain ⟨p,hp,rfl⟩:=List.mem_map.1 hs
  exact pls_ok p (List.mem_filter.1 hp).1
 ·rw [List.pairwise_map]
  exact pls_lt.sublist List.filter_sublist
theorem poss_ok:(∀s∈possS N d l ws t,SpOK N s)∧(possS N d l ws t).Pairwise SpLt:=by
 unfold possS
 split
 ·exact spots_ok
 ·exact ⟨fun s hs=>by simp at hs,List.Pairwise.nil⟩
theorem poss_eq (h:PossOK N d l ws.length t):possS N d l ws t=spotsS N d (restsS l ws) t:=by
 unfold possS
 rw [if_pos (dec_pos h)]
theorem seen_iff:seenS l ws o t=true↔ws≠ []∧ ∀S∈ws,∃e∈restS l S,e.office=o∧e.high≤t:=by
 unfold seenS
 rw [Bool.and_eq_true,List.all_eq_true,decide_eq_true_eq]
 refine and_congr ?_ ?_
 ·exact List.length_pos_iff
 ·refine forall_congr' fun S=>forall_congr' fun _=> ?_
  rw [List.any_eq_true]
  refine exists_congr fun e=>and_congr_right fun _=> ?_
  unfold isSeen
  simp
theorem wfv_of (hw:WfE d r) (hl:r.length≤15) (h0:0≤o) (h1:o<d.length):WfV d r o:=⟨hw.wd,by simp; omega,fun e he=>by
 rcases List.mem_append.1 he with he|he
 ·exact hw.each e he
 ·rw [List.mem_singleton] at he
  subst he
  exact ⟨h0,h1⟩⟩
theorem truth_at {m:List ET} {x:ET} (hf:FitW d l 0) (hW:WOK d l S.length) (hm:m.map (·.1)=restS l S) (hh:HoldsN d m) (hx:x∈m):canB d (restsS l (worldsS d l S.length)) (.at x.1.office x.2 x.2)=true:=by
 have hp:Poss d (restS l S):=⟨m,hm,hh⟩
 obtain ⟨b,hb,hin⟩:=hW.has (Int.le_refl _) hp
 have hsub:(restS l b).Sublist (restS l S):=rest_less fun e he hg=>by
  obtain ⟨r,hr,hrs⟩:=gone_iff.1 hg
  exact gone_iff.2 ⟨r,hr,hin r (List.mem_filter.2 ⟨hrs,by simpa using mem_recsS.2 ⟨e,he,hr⟩⟩)⟩
 have hrw:WfE d (restS l b):=WfE.sub hf.wfe (restS_sub l b)
 have hlen:=(restS_sub l b).length_le
 have hfew:=hf.few
 have hxm:x.1∈restS l S:=by rw [←hm]; exact List.mem_map_of_mem hx
 have hok:=hf.each x.1 ((restS_sub l S).subset hxm)
 have hall: ∀y∈m,EOK d y.1:=fun y hy=>hf.each y.1 ((restS_sub l S).subset (by rw [←hm]; exact List.mem_map_of_mem hy))
 have hpv:=pv_own hf.wd hall hh hx
 rw [hm] at hpv
 exact can_iff.2 ⟨_,List.mem_map_of_mem hb,at_iff.2 ⟨wfv_of hrw (by omega) hok.o1 hok.o2,x.2,Int.le_refl _,Int.le_refl _,hpv.sub hsub⟩⟩
theorem on_iff {l:Li}:(Knd.on l t).b d r=true↔WfE d (r++ [lvE l t,arE l t])∧PossJ d r (lvE l t) (arE l t) l.trav:=by
 show dec _=true↔_
 rw [dec_iff]
 exact Iff.rfl
end Go.Proofs.YtobaafdejnimkaaGreatDoor
namespace Go.Ord
def okB (b:Nat):Prop:=(65≤b∧b≤90)∨(48≤b∧b≤57)∨b=46
def byteAt (s:ByteArray) (i:Nat):Nat:=(s.data.getD i 0).toNat
def isLab (s:ByteArray):Prop:=1≤s.size∧s.size≤20∧ ∀i,i<s.size→okB (byteAt s i)
def stp (h n:Int):Int:=(h*1000003+n%2147483647+1)%2147483647
def sumS (l:List Int):Int:=l.foldl stp 7
theorem stp_rng (h n:Int):0≤stp h n∧stp h n<2147483647:=by
 unfold stp
 omega
theorem fold_rng: ∀(l:List Int) (h:Int),0≤h∧h<2147483647→0≤l.foldl stp h∧l.foldl stp h<2147483647
 | [],_,hh=>hh
 | x::l,_,_=>fold_rng l _ (stp_rng _ x)
theorem sumS_rng (l:List Int):0≤sumS l∧sumS l<2147483647:=fold_rng l 7 (by omega)
def bytesI (s:ByteArray):List Int:=(List.range s.size).map fun i=>(byteAt s i:Int)
def labS (s:ByteArray):Int:=sumS (bytesI s)
def leafS (s:ByteArray):Int:=sumS [0,labS s]
def upS:List Int→List Int
 | a::b::r=>sumS [1,a,b]::upS r
 | r=>r
def climbS:Int→Int→List Int→Int
 | h,_,[]=>h
 | h,i,b::r=>climbS (if b= -1 then h else if i%2=1 then sumS [1,b,h] else sumS [1,h,b]) (i / 2) r
structure ClimbOK (i:Int) (p:List Int):Prop where
 i0:0≤i
 few:p.length≤20
 each: ∀x∈p,-1≤x∧x<2147483647
structure Dc where
 sl:ByteArray
 fr:Int
 to:Int
 time:Int
 cnt:Int
 root:Int
 give:Int
 take:Int
structure Pp where
 doc:Dc
 label:ByteArray
 idx:Int
 path:List Int
abbrev remOK (x:Int):Prop:=0≤x∧x<2147483647
def KeysOK (ks:List Int):Prop:=1≤ks.length∧ks.length≤6∧ ∀x∈ks,remOK x
structure DocOK (ks:List Int) (d:Dc):Prop where
 keys:KeysOK ks
 lab:isLab d.sl
 f0:0≤d.fr
 f1:d.fr<ks.length
 t0:0≤d.to
 t1:d.to<ks.length
 m0:0≤d.time
 m1:d.time≤1000000
 c0:1≤d.cnt
 c1:d.cnt≤40
 r:remOK d.root
 g:remOK d.give
 k:remOK d.take
def firstS (ks:List Int) (d:Dc):List Int:= [ks.getD d.fr.toNat 0,labS d.sl,d.fr,d.to,d.time,d.cnt,d.root]
def secondS (ks:List Int) (d:Dc):List Int:= [ks.getD d.to.toNat 0,d.give]
def SignOK (ks:List Int) (d:Dc):Prop:=d.give=sumS (firstS ks d)∧d.take=sumS (secondS ks d)
def PlaceOK (p:Pp):Prop:=isLab p.label∧0≤p.idx∧p.idx<p.doc.cnt
def ProofOK (p:Pp):Prop:=ClimbOK p.idx p.path∧climbS (leafS p.label) p.idx p.path=p.doc.root
noncomputable def verS (ks:List Int) (p:Pp):Int:=open Classical in
 if¬DocOK ks p.doc then 1 else if¬SignOK ks p.doc then 330 else if¬PlaceOK p then 1 else if¬ProofOK p then 190 else 0
def Frees (ks:List Int) (lab:ByteArray) (op t:Int) (p:Pp):Prop:=p.label=lab∧p.doc.fr=op∧p.doc.to≠op∧p.doc.time≤t∧verS ks p=0
def Exc (ks:List Int) (ps:List Pp) (lab:ByteArray) (op t:Int):Prop:=ps.length≤100∧ ∃p∈ps,Frees ks lab op t p
end Go.Ord
namespace Go.Proofs.YtobaafdejnimkaaGreatDoor
open Go.PF Go.RowKit Go.Ord
variable {l:List Ev} {d:Dist} {t o:Int} {ws:List (List Int)} {N:Net}
structure Cl where
 label:ByteArray
 fr:Int
 to:Int
 cls:Int
 acc:Int
 due:Int
 amt:Int
structure ClOK (N:Net) (c:Cl):Prop where
 f0:0≤c.fr
 f1:c.fr<N.offs.length
 t0:0≤c.to
 t1:c.to<N.offs.length
 a0:0≤c.acc
 a1:c.acc≤c.due
 d1:c.due≤1000000
 m0:1≤c.amt
 m1:c.amt≤1000000
noncomputable def ownS (N:Net) (s:Spt):Int :=
 if dec (ConsOK keys11 N)=false then -1
 else if s.2= -1∧0≤s.1∧s.1<N.offs.length then (N.offs[s.1.toNat]?.map (·.op)).getD 0
 else if s.1= -1∧0≤s.2∧s.2<N.lines.length then ((N.lines[s.2.toNat]?.bind fun l=>N.offs[l.frm.toNat]?).map (·.op)).getD 0
 else -1
noncomputable def holdS (N:Net) (d:Dist) (l:List Ev) (ws:List (List Int)) (t:Int):List Int :=
 ((List.range N.ops.length).map fun i:Nat=>(i:Int)).filter fun o=>(possS N d l ws t).any fun s=>decide (ownS N s=o)
noncomputable def liabS (H:List Int) (ks:List Int) (ps:List Pp) (lab:ByteArray) (t:Int):Int:=match H with
 | [o]=>if dec (Exc ks ps lab o t)=true then -1 else o
 | _=> -1
noncomputable def rulS (N:Net) (d:Dist) (l:List Ev) (ws:List (List Int)) (ks:List Int) (ps:List Pp) (c:Cl):Int×Int :=
 if reachS d l ws c.to c.acc c.due=false then (1,liabS (holdS N d l ws c.due) ks ps c.label c.due)
 else if seenS l ws c.to c.due=true then (2,-1) else (0,-1)
structure DecOK (N:Net) (d:Dist) (l:List Ev) (nw:Nat) (c:Cl):Prop where
 sound:SoundOK keys11 N
 fit:FitW d l nw
 same:d.length=N.offs.length
 claim:ClOK N c
noncomputable def decS (N:Net) (d:Dist) (l:List Ev) (ws:List (List Int)) (ks:List Int) (ps:List Pp) (c:Cl):(Int×Int)×Int :=
 if dec (DecOK N d l ws.length c)=false then ((0,0),1)
 else if 100<ps.length then ((0,0),2)
 else if ws= [] then ((0,0),280)
 else (rulS N d l ws ks ps c,0)
theorem FitW.less {n m:Nat} (h:FitW d l n) (hm:m≤400):FitW d l m:=⟨h.few,hm,h.wd,h.each⟩
theorem own_rng (h:ConsOK keys11 N) {s:Spt} (hs:SpOK N s):0≤ownS N s∧ownS N s<N.ops.length:=by
 unfold ownS
 rw [dec_pos h,if_neg (by simp)]
 have hop: ∀i:Int,0≤i→i<N.offs.length→ ∃o,N.offs[i.toNat]?=some o∧0≤o.op∧o.op<N.ops.length:=fun i h0 h1=>by
  have hlt:i.toNat<N.offs.length:=by omega
  have:=h.offs.good _ (List.getElem_mem hlt)
  exact ⟨_,List.getElem?_eq_getElem hlt,this.o1,this.o2⟩
 rcases hs.is with ⟨h1,h2,h3⟩|⟨h1,h2,h3⟩
 ·rw [if_pos ⟨h1,h2,h3⟩]
  obtain ⟨o,ho,h4⟩:=hop _ h2 h3
  rw [ho]
  exact h4
 ·rw [if_neg (by omega),if_pos ⟨h1,h2,h3⟩]
  have hlt:s.2.toNat<N.lines.length:=by omega
  have hg:=h.lines.good _ (List.getElem_mem hlt)
  obtain ⟨o,ho,h4⟩:=hop _ hg.f1 hg.f2
  rw [List.getElem?_eq_getElem hlt]
  dsimp only [Option.bind_some]
  rw [ho]
  exact h4
theorem hold_lt:(holdS N d l ws t).Pairwise (· < ·):=by
 unfold holdS
 refine List.Pairwise.filter _ ?_
 rw [List.pairwise_map]
 exact List.pairwise_lt_range.imp fun h=>by omega
theorem hold_mem:o∈holdS N d l ws t↔ ∃s∈possS N d l ws t,ownS N s=o:=by
 unfold holdS
 rw [List.mem_filter,List.any_eq_true]
 simp only [decide_eq_true_eq]
 refine ⟨fun h=>h.2,fun h=>⟨?_,h⟩⟩
 obtain ⟨s,hs,rfl⟩:=h
 have hp:PossOK N d l ws.length t:=by
  unfold possS at hs
  split at hs
  ·rename_i hq
   exact dec_iff.1 hq
  ·cases hs
 have hr:=own_rng hp.sound.cons (poss_ok.1 s hs)
 exact List.mem_map.2 ⟨(ownS N s).toNat,List.mem_range.2 (by omega),by omega⟩
theorem lt_ext: ∀ {a b:List Int},a.Pairwise (· < ·)→b.Pairwise (· < ·)→(∀x,x∈a↔x∈b)→a=b
 | [],[],_,_,_=>rfl
 | [],y::b,_,_,h=>absurd ((h y).2 (by simp)) (by simp)
 | x::a,[],_,_,h=>absurd ((h x).1 (by simp)) (by simp)
 | x::a,y::b,ha,hb,h=>by
  have ha':=List.pairwise_cons.1 ha
  have hb':=List.pairwise_cons.1 hb
  have hxy:x=y:=by
   have h1:=(h x).1 (by simp)
   have h2:=(h y).2 (by simp)
   rcases List.mem_cons.1 h1 with e|h1
   ·exact e
   ·rcases List.mem_cons.1 h2 with e|h2
    ·exact e.symm
    ·have:=ha'.1 y h2
     have:=hb'.1 x h1
     omega
  subst hxy
  rw [lt_ext ha'.2 hb'.2 fun z=> ?_]
  constructor
  ·intro hz
   rcases List.mem_cons.1 ((h z).1 (by simp [hz])) with e|e
   ·have:=ha'.1 z hz; omega
   ·exact e
  ·intro hz
   rcases List.mem_cons.1 ((h z).2 (by simp [hz])) with e|e
   ·have:=hb'.1 z hz; omega
   ·exact e
theorem rul_st {ks:List Int} {ps:List Pp} {c:Cl} {s:Int}:(rulS N d l ws ks ps c).1=s↔(s=1∧reachS d l ws c.to c.acc c.due=false)∨(s=2∧reachS d l ws c.to c.acc c.due=true∧seenS l ws c.to c.due=true)∨(s=0∧reachS d l ws c.to c.acc c.due=true∧seenS l ws c.to c.due=false):=by
 unfold rulS
 cases reachS d l ws c.to c.acc c.due<;>cases seenS l ws c.to c.due<;>simp<;>omega
theorem liab_cases (H:List Int) (ks:List Int) (ps:List Pp) (lab:ByteArray) (t:Int):(∃o,H= [o]∧ ¬Exc ks ps lab o t∧liabS H ks ps lab t=o)∨((∀o,H= [o]→Exc ks ps lab o t)∧liabS H ks ps lab t= -1):=by
 match H with
 | []=>exact .inr ⟨fun o h=>(by cases h),rfl⟩
 | [o] =>
  by_cases h:Exc ks ps lab o t
  ·exact .inr ⟨fun o' e=>(by cases e; exact h),by show (if dec (Exc ks ps lab o t)=true then (-1:Int) else o)= -1; rw [if_pos (dec_pos h)]⟩
  ·exact .inl ⟨o,rfl,h,by show (if dec (Exc ks ps lab o t)=true then (-1:Int) else o)=o; rw [dec_neg h]; rfl⟩
 | a::b::r=>exact .inr ⟨fun o h=>(by cases h),rfl⟩
theorem reach_more {e:Ev} {f:Int} (hf:FitW d l ws.length) (h:reachS d (l++ [e]) ws o f t=true):reachS d l ws o f t=true:=by
 unfold reachS at h ⊢
 rw [dec_pos hf]
 simp only [Bool.and_eq_true] at h ⊢
 exact ⟨⟨by simp,h.1.2⟩,can_more h.2⟩
theorem seen_more {e:Ev} (h:seenS l ws o t=true):seenS (l++ [e]) ws o t=true:=by
 obtain ⟨h1,h2⟩:=seen_iff.1 h
 refine seen_iff.2 ⟨h1,fun S hS=> ?_⟩
 obtain ⟨x,hx,h3⟩:=h2 S hS
 exact ⟨x,by rw [rest_app]; exact List.mem_append_left _ hx,h3⟩
theorem truth_reach {S:List Int} {m:List ET} {x:ET} {f:Int} (hf:FitW d l 0) (hn:(worldsS d l S.length).length≤400) (hW:WOK d l S.length) (hm:m.map (·.1)=restS l S) (hh:HoldsN d m) (hx:x∈m) (h1:f≤x.2) (h2:x.2≤t):reachS d l (worldsS d l S.length) x.1.office f t=true:=by
 have hk:=can_wider h1 h2 (truth_at hf hW hm hh hx)
 have hxm:x.1∈restS l S:=by rw [←hm]; exact List.mem_map_of_mem hx
 have hok:=hf.each x.1 ((restS_sub l S).subset hxm)
 unfold reachS
 rw [dec_pos (hf.less hn),decide_eq_true ⟨hok.o1,hok.o2⟩,hk]
 rfl
theorem truth_seen {S:List Int} (hW:WOK d l S.length) (hp:Poss d (restS l S)) (h:seenS l (worldsS d l S.length) o t=true): ∃e∈restS l S,e.office=o∧e.high≤t:=by
 obtain ⟨b,hb,hin⟩:=hW.has (Int.le_refl _) hp
 have hsub:(restS l b).Sublist (restS l S):=rest_less fun e he hg=>by
  obtain ⟨r,hr,hrs⟩:=gone_iff.1 hg
  exact gone_iff.2 ⟨r,hr,hin r (List.mem_filter.2 ⟨hrs,by simpa using mem_recsS.2 ⟨e,he,hr⟩⟩)⟩
 obtain ⟨e,he,h3⟩:=(seen_iff.1 h).2 b hb
 exact ⟨e,hsub.subset he,h3⟩
end Go.Proofs.YtobaafdejnimkaaGreatDoor
namespace Go.PF
open Go.RowKit
section
variable {P:Program} {w:World}
end
section
variable {P:Program} {r:Option Nat} {Q:Exit→Act→World→Prop} {N:Nat} {ds:List Deferred} {ops rest:List Oper} {E:Env} {w:World}
variable {d:Option Tmp} {ty:TypeId} {pos:String} {af:Array Edge} {gu:Option (Nat×Bool)} {s x:Operand}
theorem X.capSlice {ρ:Operand→Value} {A:Option Addr} {l c:Nat} {t e:TypeId} (ht:P.underlying t=some (.slice e)) (hx:ρ x= .slice A l c):(execOp ρ ⟨d,.call ⟨.builtin .cap,#[x],#[t]⟩,ty,pos,af,gu⟩).run P w= .ok (.value (.int .i64 (c:Int))) w:=by simp [execOp,resolve,Go.invoke,Go.builtin,hx,Builtin.cap_,run_underlying ht,goInt]
theorem TW.capSlice {cx G:Option Bool} {A:Option Addr} {l c:Nat} {t e:TypeId} (hg:gd ops E gu=some G) (hd:okDst N d=true) (ht:P.underlying t=some (.slice e)) (hx:ev E x=some (cx,.slice A l c)) (ix:Cnd G→Cnd cx)
  (next:TW P r Q N ds ops rest (ins E d G (.int .i64 (c:Int))) w):TW P r Q N ds ops (⟨d,.call ⟨.builtin .cap,#[x],#[t]⟩,ty,pos,af,gu⟩::rest) E w :=
 TW.val hg hd rfl (fun hG _ ha=>X.capSlice ht (ha.eval hx (ix hG))) next
end
end Go.PF
namespace Go.PF
open Go.RowKit
section
variable {P:Program} {w:World}
theorem run_append_nilZn (t ti ty e:TypeId) (i:TypeInfo) (z:Value) (ht:P.underlying t=some (.slice e)) (hti:P.underlying ti=some (.int .i64)) (hi:P.info? e=some i) (hz:i.zero=some z) (hs:0<i.size)
  (n:Nat) (h0:0<n) (h63:(n:Int)≤9223372036854775807) (h48:n*i.bytes≤281474976710656) :
  (Builtin.append_ #[t,ti] ty #[.slice none 0 0,.int .i64 (n:Int)]).run P w =
   .ok (.slice (some ⟨w.heap.size,0,none⟩) n (grownCap w n 0 e)) (w.drew.alloc (.cells (Builtin.zeroCells z.cells n++Builtin.zeroCells z.cells (grownCap w n 0 e-n)) e)):=by
 have hn:n≠0:=by omega
 have h63': ¬(9223372036854775807<(n:Int)):=by omega
 have hw:IntKind.i64.wrap (n:Int)=n:=wrap_fits (by omega)
 have hneg: ¬((n:Int)<0):=by omega
 have h48a: ¬(281474976710656<(n:Int)*(i.bytes:Int)):=by
  have:((n*i.bytes:Nat):Int)≤281474976710656:=by omega
  rw [Int.natCast_mul] at this
  omega
 have hle: ¬((n:Int)≤0):=by omega
 have hs0: ¬i.size=0:=by omega
 have hns: ¬n*i.size=0:=Nat.mul_ne_zero hn hs0
 have h48': ¬(281474976710656<Builtin.nextslicecap n 0*i.bytes):=by rw [nextslicecap_zero h0]; omega
 simp [Builtin.append_,run_underlying ht,run_underlying hti,sizeOf,typeInfo,zeroValue,hi,hz,hs0,hns,hw,hneg,h48a,hle,asInt,asIntOf,hn,h63',h48',Question.forced,run_firstCells_none,newRow,grownCap]
end
section
variable {P:Program} {r:Option Nat} {Q:Exit→Act→World→Prop} {N:Nat} {ds:List Deferred} {ops rest:List Oper} {E:Env} {w:World}
variable {d:Option Tmp} {ty:TypeId} {pos:String} {af:Array Edge} {gu:Option (Nat×Bool)} {s x:Operand}
theorem TW.appendZn {t ti e:TypeId} {sz bytes n:Nat} (hg:gu=none) (hd:okDst N d=true) (hok:growOK P t e sz bytes=true) (hti:P.underlying ti=some (.int .i64)) (hs:ev E s=some (none,.slice none 0 0)) (hx:ev E x=some (none,.int .i64 (n:Int))) (h0:0<n) (hn:n≤1000000000) (hb:bytes≤1000) (hsz:0<sz)
  (next: ∀g cap w',n≤cap→OwnS w' e sz (.slice (some ⟨g,0,none⟩) 0 cap) 0 []→w.heap.size=g→Below w.heap.size w w'→TW P r Q N ds ops rest (ins E d none (.slice (some ⟨g,0,none⟩) n cap)) w') :
  TW P r Q N ds ops (⟨d,.call ⟨.builtin .append,#[s,x],#[t,ti]⟩,ty,pos,af,gu⟩::rest) E w:=by
 obtain ⟨i,z,hu,hi,hz0,hsize,hby,hzs,_⟩:=growOK_spec hok
 have hmul:n*i.bytes≤281474976710656:=by
  rw [hby]
  exact Nat.le_trans (Nat.mul_le_mul hn hb) (by decide)
 have hr:=run_append_nilZn (P:=P) (w:=w) t ti ty e i z hu hti hi hz0 (by omega) n h0 (by omega) hmul
 have hge:=grownCap_ge w n 0 e
 have hle:=grownCap_le_maxLen w n 0 e (by simp only [maxLen]; omega)
 refine TW.eff (v:= .slice (some ⟨w.heap.size,0,none⟩) n (grownCap w n 0 e)) (w':=w.drew.alloc (.cells (Builtin.zeroCells z.cells n++Builtin.zeroCells z.cells (grownCap w n 0 e-n)) e)) hg hd rfl (fun a ha=> ?_) ?_
 ·simp only [execOp,resolve,Go.invoke,Go.builtin,Sem.run_bind,Sem.run_pure,Result.andThen_ok,List.map_toArray,List.map_cons,List.map_nil,ha.eval hs trivial,ha.eval hx trivial,hr]
 ·refine next _ _ _ hge ⟨by simp,.inr ⟨w.heap.size,grownCap w n 0 e,_,rfl,Nat.zero_le _,heap_alloc_new w.drew _,Nat.zero_le _,hle,?_,by simp⟩⟩ rfl ?_
  ·simp only [Builtin.zeroCells,Array.size_append,Array.size_map,Array.size_range,hzs]
   rw [←Nat.add_mul,Nat.add_sub_cancel' hge]
  ·exact ((Below.refl _ _).trans ⟨rfl,rfl,rfl,Nat.le_refl _,fun _ _=>rfl⟩:Below w.heap.size w w.drew).alloc (Nat.le_refl _) _
end
end Go.PF
