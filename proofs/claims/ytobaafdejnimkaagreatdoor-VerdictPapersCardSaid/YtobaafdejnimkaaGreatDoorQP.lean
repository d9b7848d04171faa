/- Texts of this claim,joined. -/
import Derived.Test.YtobaafdejnimkaaGreatDoorQO
import Derived.KernelRfl
import Derived.Shelf.Strings.FuncGrows
set_option linter.unusedSimpArgs false
set_option linter.unusedVariables false
set_option maxRecDepth 100000
set_option maxHeartbeats 4000000
namespace Go.Proofs.YtobaafdejnimkaaGreatDoor
open Go.PF Go.RowKit Go.Ord
attribute [local irreducible] TW CW KW DW
variable {N:Net} {w w0 W:World} {v:NV} {n i g:Nat} {r:List Int}
theorem consist_c (hN:NetAt w v N) (hf:FewN N):Gives Tryz.prog 103 #[.agg v.cells.toArray] w fun u w'=>Below w.heap.size w w'∧u= .bool (dec (ConsOK keys11 N)):=by
 have hform:=NetIn.form hN
 obtain ⟨vc,vn,vo,vf,vl,vk⟩:=v
 obtain ⟨⟨A1,c1,e1⟩,⟨A2,c2,e2⟩,⟨A3,c3,e3⟩,⟨A4,c4,e4⟩,⟨A5,c5,e5⟩,⟨A6,c6,e6⟩⟩:=id hform
 dsimp only at e1 e2 e3 e4 e5 e6
 subst e1 e2 e3 e4 e5 e6
 refine gv (f:=103) ?_
 refine rnT ?_
 refine TW.box rfl rfl rfl rfl ?_
 rintro g1 w1 f1
 refine rnT ?_
 have hB1:=f1.blk
 have hN1:=net_step hN f1.below
 refine TW.ldS rfl (fun _ _ hv=>hB1.fld hv) ?_
 refine TW.cl rfl (faults_c (v:=⟨.slice A1 N.cals.length c1,.slice A2 N.names.length c2,.slice A3 N.ops.length c3,.slice A4 N.offs.length c4,.slice A5 N.lines.length c5,.slice A6 N.classes.length c6⟩) hN1 hf) ?_
 rintro y2 w2 ⟨d2,n,hR,hn,hiff⟩
 obtain ⟨Y,yc,rfl⟩:=FRow.form hR
 refine rnT ?_
 refine rt1 rfl ⟨f1.below.step d2,?_⟩
 by_cases hc:ConsOK keys11 N
 ·rw [dec_pos hc]
  simp [hiff.2 hc]
 ·rw [dec_neg hc]
  have:n≠0:=fun e=>hc (hiff.1 e)
  simp
  omega
theorem linesB_take {L:List Ln} {l:Ln} (h:L[i]?=some l):linesB r (L.take (i+1))=rlxB (linesB r (L.take i)) l:=by
 unfold linesB
 rw [List.take_add_one,h,List.foldl_append]
 rfl
def mfill (n b:Nat):List Int:=(List.range n).map fun i=>if i<b then -1 else 0
theorem mfill_len (n b:Nat):(mfill n b).length=n:=by simp [mfill]
theorem mfill_zero (n:Nat):mfill n 0=List.replicate n 0:=by
 apply List.ext_getElem?
 intro i
 simp [mfill,List.getElem?_replicate]
 split
 ·rename_i h; simp [h]
 ·rename_i h; rw [List.getElem?_eq_none (by simpa using h)]; rfl
theorem mfill_all (n:Nat):mfill n n=List.replicate n (-1):=by
 apply List.ext_getElem?
 intro i
 simp only [mfill,List.getElem?_replicate,List.getElem?_map]
 split
 ·rename_i h; simp [h]
 ·rename_i h; rw [List.getElem?_eq_none (by simpa using h)]; rfl
theorem mfill_succ {b:Nat} (hb:b<n):(mfill n b).set b (-1)=mfill n (b+1):=by
 apply List.ext_getElem?
 intro i
 rw [List.getElem?_set,mfill_len]
 by_cases h:b=i
 ·subst h
  simp [mfill,hb]
 ·rw [if_neg h]
  unfold mfill
  rw [List.getElem?_map,List.getElem?_map]
  rcases Nat.lt_or_ge i n with hi|hi
  ·rw [List.getElem?_range hi]
   simp only [Option.map_some]
   congr 1
   by_cases h':i<b
   ·rw [if_pos h',if_pos (by omega)]
   ·rw [if_neg h',if_neg (by omega)]
  ·rw [List.getElem?_eq_none (by simpa using hi)]; rfl
structure RowW (w0 W:World) (g n:Nat) (r:List Int):Prop where
 own:OwnS W 3 1 (.slice (some ⟨g,0,none⟩) n n) n (r.map (Value.int .i64))
 len:r.length=n
 but:But g w0 W
theorem RowW.step {w0 W W':World} {g n:Nat} {r:List Int} (h:RowW w0 W g n r) (hb:Below W.heap.size W W'):RowW w0 W' g n r:=⟨h.own.below hb,h.len,h.but.step hb⟩
theorem RowW.cell {w0 W:World} {g n i:Nat} {r:List Int} (h:RowW w0 W g n r) (hi:i<n):W.cell? (Addr.add ⟨g,0,none⟩ ((i:Int).toNat*1))=some (.int .i64 (gB r i)):=by
 rw [Nat.mul_one,Int.toNat_natCast]
 refine h.own.cell1 ?_
 rw [List.getElem?_map,List.getElem?_eq_getElem (by have:=h.len; omega)]
 unfold gB
 rw [List.getD_eq_getElem?_getD,List.getElem?_eq_getElem (by have:=h.len; omega)]
 rfl
theorem RowW.put {W':World} {x:Int} (h:RowW w0 W g n r) (o:OwnS W' 3 1 (.slice (some ⟨g,0,none⟩) n n) n ((r.map (Value.int .i64)).set ((i:Int).toNat*1) (.int .i64 x))) (hb:But g W W'):RowW w0 W' g n (r.set i x) :=
 ⟨by
  rw [Nat.mul_one,Int.toNat_natCast] at o
  rw [List.map_set]
  exact o,by rw [List.length_set]; exact h.len,h.but.trans hb⟩
theorem RowW.cellI {i:Int} (h:RowW w0 W g n r) (h0:0≤i) (hi:i<n):W.cell? (Addr.add ⟨g,0,none⟩ (i.toNat*1))=some (.int .i64 (gB r i.toNat)):=by
 obtain ⟨k,rfl⟩:=Int.eq_ofNat_of_zero_le h0
 exact h.cell (by omega)
theorem RowW.putN {W':World} {j:Nat} {x:Int} (h:RowW w0 W g n r) (o:OwnS W' 3 1 (.slice (some ⟨g,0,none⟩) n n) n ((r.map (Value.int .i64)).set (j*1) (.int .i64 x))) (hb:But g W W'):RowW w0 W' g n (r.set j x) :=
 ⟨by
  rw [Nat.mul_one] at o
  rw [List.map_set]
  exact o,by rw [List.length_set]; exact h.len,h.but.trans hb⟩
theorem rb_at {L:List Ln} {a k:Nat} (hL:LnOK n L) (ha:a<n) (hn:n≤12) (hl:L.length≤40) (hk:k≤n):RB L n a 3000000 (linesB (rndsB L (startB n a) k) (L.take i)):=by
 obtain ⟨h,_⟩:=RB.lines hL (L.take i) _ _ (fun l hl=>List.mem_of_mem_take hl) (by omega) (RB.rnds hL ha k)
 have h1:k*L.length≤12*40:=Nat.mul_le_mul (by omega) hl
 have h2:(L.take i).length≤L.length:=by rw [List.length_take]; omega
 exact ⟨h.len,h.own,fun b=>⟨(h.rng b).1,Int.le_trans (h.rng b).2 (by omega)⟩,h.sound⟩
theorem rdist_c (hN:NetAt w v N) (hf:FewN N) (hc:ConsOK keys11 N):Gives Tryz.prog 164 #[.agg v.cells.toArray] w fun u w'=>Below w.heap.size w w'∧SL (sliceT intT) (fun k=>w.heap.size≤k∧k<w'.heap.size) w' u ((List.range N.offs.length).map fun a=>rowB (lnOf N) N.offs.length a):=by
 have hform:=NetIn.form hN
 obtain ⟨vc,vn,vo,vf,vl,vk⟩:=v
 obtain ⟨⟨A1,c1,e1⟩,⟨A2,c2,e2⟩,⟨A3,c3,e3⟩,⟨A4,c4,e4⟩,⟨A5,c5,e5⟩,⟨A6,c6,e6⟩⟩:=id hform
 dsimp only at e1 e2 e3 e4 e5 e6
 subst e1 e2 e3 e4 e5 e6
 obtain ⟨hL,hn12,hl40⟩:=hc.ln
 have hll:(lnOf N).length=N.lines.length:=by unfold lnOf; rw [List.length_map]
 refine gv (f:=164) ?_
 refine rnT ?_
 refine TW.box rfl rfl rfl rfl ?_
 rintro g1 w1 f1
 refine rnT ?_
 have hB1:=f1.blk
 have hN1:=net_step hN f1.below
 have hb01:=f1.below.size
 refine TW.ldS rfl (fun _ _ hv=>hB1.fld hv) ?_
 refine TW.cl rfl (consist_c (v:=⟨.slice A1 N.cals.length c1,.slice A2 N.names.length c2,.slice A3 N.ops.length c3,.slice A4 N.offs.length c4,.slice A5 N.lines.length c5,.slice A6 N.classes.length c6⟩) hN1 hf) ?_
 rintro y2 w2 ⟨b2,rfl⟩
 rw [dec_pos hc]
 refine rnT ?_
 refine CW.cond rfl (fun hbad=> ?_) (fun hgood=> ?_)
 ·exact absurd hbad (by simp)
 have hB2:=hB1.next b2
 have hN2:=net_step hN1 b2
 have b02:=f1.below.step b2
 refine rnT ?_
 refine CW.lp [1] (fun x:Nat×Value×List (Value×List Int)=> [(3,none,x.2.1),(4,none,.int .i64 (x.1:Int))])
  (fun x W=>x.1≤N.offs.length∧Below w2.heap.size w2 W∧Tab W w2.heap.size x.2.1 x.2.2∧x.2.2.length=x.1∧x.2.2.map (·.2)=(List.range x.1).map fun a=>rowB (lnOf N) N.offs.length a) (fun x=>N.offs.length-x.1) (0,.slice none 0 0,[]) ⟨Nat.zero_le _,Below.refl _ _,⟨OwnS.nil _ _ _,(fun g hg=>by simp [Value.ownBlock] at hg),(fun p hp=>by cases hp),List.Pairwise.nil⟩,rfl,rfl⟩ ?_
 rintro ⟨a,tv,rs⟩ W ⟨ha,hW,hT,hrl,hrs⟩
 dsimp only at ha hT hrl hrs
 have hBW:=hB2.next hW
 have hbs:=hW.size
 obtain ⟨TA,tcap,htv,_⟩:=hT.own.form
 subst htv
 refine rnT ?_
 refine TW.ld rfl (hBW.fld rfl) ?_
 refine rnT ?_
 refine CW.pk [1,3,4,17] rfl ?_
 refine CW.condP rfl (fun hlt=> ?_) (fun hge=> ?_)
 ·have haN:a<N.offs.length:=by omega
  refine rnT ?_
  refine TW.ld rfl (hBW.fld rfl) ?_
  refine rnT ?_
  refine TW.makeSlice rfl rfl (zero1_of go32 ze3 rfl) rfl rfl (by omega) (by omega) ?_
  rintro gr wr fr
  refine rnT ?_
  have hatr:=fr.at_
  have hR0:RowW wr wr gr N.offs.length (mfill N.offs.length 0):=⟨by
   rw [mfill_zero,List.map_replicate]
   exact OwnS.of_blk fr.blk (by simp) (by omega),mfill_len _ _,But.of_below (Below.refl _ _)⟩
  refine CW.lp [1,3,4,5] (fun b:Nat=> [(6,none,.int .i64 (b:Int))])
   (fun b W'=>b≤N.offs.length∧RowW wr W' gr N.offs.length (mfill N.offs.length b)) (fun b=>N.offs.length-b) 0 ⟨Nat.zero_le _,hR0⟩ ?_
  rintro b W1 ⟨hb,hR1⟩
  refine rnT ?_
  refine CW.condP rfl (fun hltb=> ?_) (fun hgeb=> ?_)
  ·refine rnT ?_
   refine TW.storeRow1 rfl sz3 rfl rfl hR1.own (by rw [List.length_map,mfill_len]; omega) rfl ?_
   rintro W2 o2 hbut2 hsz2
   refine rnT ?_
   have hR2:=hR1.put o2 hbut2
   rw [mfill_succ (by omega)] at hR2
   refine KW.rd (b+1) ⟨by omega,hR2⟩
  have hbe:b=N.offs.length:=by omega
  subst hbe
  rw [mfill_all] at hR1
  refine rnT ?_
  refine TW.storeRow1 rfl sz3 rfl rfl hR1.own (by simp; omega) rfl ?_
  rintro W2 o2 hbut2 hsz2
  refine rnT ?_
  have hR2:RowW wr W2 gr N.offs.length (startB N.offs.length a):=hR1.put o2 hbut2
  have hTr:=hT.step fr.below
  have hg1r:g1<gr:=by have:=hB2.lt; omega
  have hkeep: ∀ {W':World},But gr wr W'→ ∀k,k<w2.heap.size→W'.heap[k]?=w2.heap[k]?:=fun hb k hk=>((hb.block k (by have:=fr.below.size; omega) (fun e=>by cases e; omega)).trans (fr.below.block k (by omega))).trans (hW.block k hk)
  refine CW.lp [1,3,4,5] (fun k:Nat=> [(7,none,.int .i64 (k:Int))])
   (fun k W'=>k≤N.offs.length∧RowW wr W' gr N.offs.length (rndsB (lnOf N) (startB N.offs.length a) k)) (fun k=>N.offs.length-k) 0 ⟨Nat.zero_le _,hR2⟩ ?_
  rintro k W3 ⟨hk,hR3⟩
  refine rnT ?_
  refine CW.condP rfl (fun hltk=> ?_) (fun hgek=> ?_)
  ·refine rnT ?_
   refine CW.lp [1,3,4,5,7] (fun i:Nat=> [(8,none,.int .i64 (i:Int))])
    (fun i W'=>i≤N.lines.length∧RowW wr W' gr N.offs.length (linesB (rndsB (lnOf N) (startB N.offs.length a) k) ((lnOf N).take i))) (fun i=>N.lines.length-i) 0 ⟨Nat.zero_le _,hR3⟩ ?_
   rintro i W4 ⟨hi,hR4⟩
   have hB4:Blk W4 g1 29 _:=(hkeep hR4.but g1 hB2.lt).trans hB2
   have hlW:=hN2.l.mono (Kept.of_blocks fun k hk _=>hkeep hR4.but k hk)
   refine rnT ?_
   refine TW.ld rfl (hB4.fld rfl) ?_
   refine rnT ?_
   refine CW.pk [1,3,4,5,7,8,46] rfl ?_
   refine CW.condP rfl (fun hlti=> ?_) (fun hgei=> ?_)
   ·obtain ⟨l,hl,hlm⟩:=getx (l:=N.lines) (k:=i) (by omega)
    obtain ⟨ad,rfl⟩:=hlW.addr (by omega)
    obtain ⟨ad',cs,e9,hF9,hrep9,hc9⟩:=hlW.at hl
    cases e9
    obtain ⟨rfl,_⟩:=hrep9
    have hgl:=hc.lines.good l hlm
    have q1:=hgl.f1
    have q2:=hgl.f2
    have q3:=hgl.t1
    have q4:=hgl.t2
    have q5:=hgl.r1
    have q6:=hgl.r2
    have hLi:(lnOf N)[i]?=some (l.frm.toNat,l.to.toNat,l.trav):=by unfold lnOf; rw [List.getElem?_map,hl]; rfl
    have hrb:=rb_at (i:=i) hL haN hn12 hl40 hk
    obtain ⟨r,hr⟩: ∃r,r=linesB (rndsB (lnOf N) (startB N.offs.length a) k) ((lnOf N).take i):=⟨_,rfl⟩
    have hrn:=linesB_take (r:=rndsB (lnOf N) (startB N.offs.length a) k) hLi
    rw [←hr] at hR4 hrb hrn
    have hx:=hrb.rng l.frm.toNat
    have hy:=hrb.rng l.to.toNat
    refine rnT ?_
    refine TW.ld rfl (hB4.fld rfl) ?_
    refine rnT ?_
    refine TW.ldS rfl (hc9) ?_
    refine TW.newVar rfl zc113 rfl sz113 rfl rfl ?_
    rintro g9 w9 f9
    refine rnT ?_
    refine CW.draw mixed (by kernel_rfl) ?_
    refine rnD ?_
    have hR9:=hR4.step f9.below
    have hB9:Blk w9 g9 113 (liV l):=f9.blk
    have hxc:=hR9.cellI q1 q2
    have hyc:=hR9.cellI q3 q4
    refine DW.ld rfl (hB9.fld rfl) ?_
    refine rnD ?_
    refine DW.ld rfl hxc ?_
    refine rnD ?_
    refine DW.ld rfl (hB9.fld rfl) ?_
    refine rnD ?_
    refine DW.ld rfl hyc ?_
    refine rnD ?_
    refine DW.ld rfl (hB9.fld rfl) ?_
    refine rnD ?_
    refine DW.ld rfl hyc ?_
    refine rnD ?_
    refine DW.ld rfl (hB9.fld rfl) ?_
    refine rnD ?_
    refine DW.ld rfl hxc ?_
    refine rnD ?_
    refine DW.ld rfl (hB9.fld rfl) ?_
    refine rnD ?_
    refine DW.fi [1,3,4,5,7,8,9,83] rfl fun w10 b10=> ?_
    refine KW.then_ ?_
    have hRA:=hR9.step b10
    have hBA:=hB9.next b10
    refine CW.cond rfl (fun hyes=> ?_) (fun hno=> ?_)
    ·skip
     refine CW.drawR mixed fun W5 h5=> ?_
     refine RW.draw .weak 12 (by kernel_rfl) (by kernel_rfl) rfl rfl h5 ?_
     refine rnD ?_
     refine DW.ld rfl (hBA.fld rfl) ?_
     refine rnD ?_
     refine DW.ld rfl (hBA.fld rfl) ?_
     refine rnD ?_
     refine DW.ld rfl (hRA.cellI q1 q2) ?_
     refine rnD ?_
     refine DW.ld rfl (hBA.fld rfl) ?_
     refine rnD ?_
     refine DW.nil (DW.fin [1,3,4,5,7,8,9,94,95] [(1,_,_),(3,_,_),(4,_,_),(5,_,_),(7,_,_),(8,_,_),(9,_,_),(94,_,_),(95,_,_)] rfl (fun w11 b11=>KW.rk' ?_))
     refine RW.one (by kernel_rfl) (by kernel_rfl) rfl ?_
     have hRB:=hRA.step b11
     refine TW.storeRow1 rfl sz3 rfl rfl hRB.own (by rw [List.length_map,hRB.len]; omega) rfl ?_
     rintro w12 o12 hbut12 hsz12
     refine TW.nil (KW.pick [1,3,4,5,7,8,9] [(1,_,_),(3,_,_),(4,_,_),(5,_,_),(7,_,_),(8,_,_),(9,_,_)] rfl (KW.rk ?_))
     refine RW.end rfl (KW.pick [1,3,4,5,7,8,9] [(1,_,_),(3,_,_),(4,_,_),(5,_,_),(7,_,_),(8,_,_),(9,_,_)] rfl (KW.blockN (KW.then_ ?_)))
     refine rnT ?_
     have hRC:=hRB.putN o12 hbut12
     have he:r.set l.to.toNat (gB r l.frm.toNat+l.trav)=rlxB r (l.frm.toNat,l.to.toNat,l.trav):=by
      unfold rlxB
      rw [if_pos (by simpa using hyes)]
     rw [he,←hrn] at hRC
     refine KW.rd (i+1) ⟨by omega,hRC⟩
    ·have he:r=rlxB r (l.frm.toNat,l.to.toNat,l.trav):=by
      unfold rlxB
      rw [if_neg (by simpa using hno)]
     rw [he,←hrn] at hRA
     refine rnT ?_
     refine KW.rd (i+1) ⟨by omega,hRA⟩
   ·have hie:i=N.lines.length:=by omega
    subst hie
    rw [←hll,List.take_length] at hR4
    refine rnT ?_
    refine KW.rd (k+1) ⟨by omega,hR4⟩
  have hke:k=N.offs.length:=by omega
  subst hke
  have hRF:RowW wr W3 gr N.offs.length (rowB (lnOf N) N.offs.length a):=hR3
  have hrow:=rowB_ok hL haN
  have hTF:Tab W3 w2.heap.size (.slice TA rs.length tcap) rs:=hTr.but hRF.but (fun e=>absurd (hT.own.lt e) (by omega)) (fun p hp e=>absurd ((hT.row p hp).1.lt e) (by omega))
  refine rnT ?_
  refine TW.buildSlice 32 _ rfl rfl rfl eo30 (Args.cons rfl ct Args.nil) rfl rfl rfl rfl rfl ?_
  rintro g26 w26 f26
  have hT26:=hTF.step f26.below
  have hR26:=hRF.step f26.below
  refine TW.append [.slice (some ⟨gr,0,none⟩) N.offs.length N.offs.length] rfl rfl go30 rfl hT26.own rfl rfl (fun j v hj=>⟨⟨g26,0,none⟩,rfl,f26.blk.fld hj⟩) (fun v hv=>by simp at hv; subst hv; rfl) (by omega) (by omega) ?_
  rintro tv' w27 o27 hg27 hn27
  refine rnT ?_
  have hl9:(rowB (lnOf N) N.offs.length a).length=N.offs.length:=hrow.1
  have hBw:Below w2.heap.size w2 w26:=((hW.step fr.below).grown hRF.but (by have:=fr.below.size; omega) (fun q hq=>by cases hq; omega)).step f26.below
  have hT27:Tab w27 w2.heap.size tv' (rs++ [(.slice (some ⟨gr,0,none⟩) N.offs.length N.offs.length,rowB (lnOf N) N.offs.length a)]):=by
   refine hT26.app o27 hg27 hn27 hBw.size (by rw [hl9]; exact hR26.own) (fun x hx=> ?_) (fun g hg=> ?_) (fun p hp g hg e=> ?_)
   ·obtain ⟨j,hj⟩:=List.mem_iff_getElem?.1 hx
    have h9:=hrow.2.1 j
    have h8:N.offs.length*(lnOf N).length≤12*40:=Nat.mul_le_mul hn12 hl40
    unfold gB at h9
    rw [List.getD_eq_getElem?_getD,hj] at h9
    simp only [Option.getD_some] at h9
    exact ⟨by omega,by omega⟩
   ·cases hg
    exact ⟨by show w2.heap.size≤gr; omega,fun e=>by
     have h9:gr<W.heap.size:=hT.own.lt e
     omega⟩
   ·cases e
    have h9:gr<W.heap.size:=(hT.row p hp).1.lt hg
    omega
  refine KW.rd (a+1,tv',rs++ [(.slice (some ⟨gr,0,none⟩) N.offs.length N.offs.length,rowB (lnOf N) N.offs.length a)]) ⟨by show a+1≤_; omega,hBw.grown hg27 hBw.size hT.lb,hT27,by simp [hrl],?_⟩
  show List.map Prod.snd (rs++ [_])=_
  rw [List.map_append,hrs,List.range_succ,List.map_append]
  rfl
 ·have hae:a=N.offs.length:=by omega
  subst hae
  have hsd:=hT.sdF (by omega) (fun p hp=>by
   have:p.2∈rs.map (·.2):=List.mem_map_of_mem hp
   rw [hrs] at this
   obtain ⟨i,hi,e⟩:=List.mem_map.1 this
   rw [←e,(rowB_ok hL (List.mem_range.1 hi)).1]
   omega)
  rw [hrs] at hsd
  refine rnT ?_
  refine rt1 rfl ⟨b02.step hW,hsd.wider fun k hk=>⟨Nat.le_trans b02.size hk.1,hk.2⟩⟩
theorem rcheck_c (hN:NetAt w v N) (hf:FewN N):Gives Tryz.prog 95 #[.agg v.cells.toArray] w fun u w'=>Below w.heap.size w w'∧ ∃A n c,u= .slice A n c∧(n=0↔SoundOK keys11 N):=by
 have hform:=NetIn.form hN
 obtain ⟨vc,vn,vo,vf,vl,vk⟩:=v
 obtain ⟨⟨A1,c1,e1⟩,⟨A2,c2,e2⟩,⟨A3,c3,e3⟩,⟨A4,c4,e4⟩,⟨A5,c5,e5⟩,⟨A6,c6,e6⟩⟩:=id hform
 dsimp only at e1 e2 e3 e4 e5 e6
 subst e1 e2 e3 e4 e5 e6
 refine gv (f:=95) ?_
 refine rnT ?_
 refine TW.box rfl rfl rfl rfl ?_
 rintro g1 w1 f1
 refine rnT ?_
 have hB1:=f1.blk
 have hN1:=net_step hN f1.below
 refine TW.ldS rfl (fun _ _ hv=>hB1.fld hv) ?_
 refine TW.cl rfl (faults_c (v:=⟨.slice A1 N.cals.length c1,.slice A2 N.names.length c2,.slice A3 N.ops.length c3,.slice A4 N.offs.length c4,.slice A5 N.lines.length c5,.slice A6 N.classes.length c6⟩) hN1 hf) ?_
 rintro y2 w2 ⟨d2,n,hR,hn,hiff⟩
 obtain ⟨Y,yc,rfl⟩:=FRow.form hR
 have b2:=f1.below.step d2
 have hB2:=hB1.next d2
 refine rnT ?_
 refine CW.condP rfl (fun hbad=> ?_) (fun hgood=> ?_)
 ·refine rnT ?_
  refine rt1 rfl ⟨b2,_,_,_,rfl,⟨fun h=>by omega,fun h=>hiff.2 h.cons⟩⟩
 have hcons:ConsOK keys11 N:=hiff.1 (by omega)
 obtain ⟨hL,hn12,hl40⟩:=hcons.ln
 have hn0:n=0:=by omega
 subst hn0
 refine rnT ?_
 refine TW.ldS rfl (fun _ _ hv=>hB2.fld hv) ?_
 refine TW.cl rfl (rdist_c (v:=⟨.slice A1 N.cals.length c1,.slice A2 N.names.length c2,.slice A3 N.ops.length c3,.slice A4 N.offs.length c4,.slice A5 N.lines.length c5,.slice A6 N.classes.length c6⟩) (net_step hN1 d2) hf hcons) ?_
 rintro y3 w3 ⟨d3,hd⟩
 obtain ⟨D,hD⟩: ∃D,D=(List.range N.offs.length).map fun a=>rowB (lnOf N) N.offs.length a:=⟨_,rfl⟩
 rw [←hD] at hd
 have hDl:D.length=N.offs.length:=by rw [hD]; simp
 have hDr: ∀a,a<N.offs.length→D[a]?=some (rowB (lnOf N) N.offs.length a):=fun a ha=>by rw [hD,List.getElem?_map,List.getElem?_range ha]; rfl
 obtain ⟨DA,dcap,rfl,_⟩:=hd.form
 have hR3:=hR.below d3
 have b3:=b2.step d3
 have b13:Below w1.heap.size w1 w3:=d2.step d3
 refine rnT ?_
 refine CW.lp [4] (fun z:Nat×Value×Nat=> [(3,none,z.2.1),(5,none,.int .i64 (z.1:Int))])
  (fun z W=>z.1≤N.offs.length∧Below w1.heap.size w1 W∧w3.heap.size≤W.heap.size∧SL (sliceT intT) (fun k=>w2.heap.size≤k∧k<w3.heap.size) W (.slice DA D.length dcap) D∧FRow W w1.heap.size z.2.1 z.2.2∧(∀g,z.2.1.ownBlock=some g→g<w2.heap.size∨w3.heap.size≤g)∧z.2.2≤z.1∧(z.2.2=0↔ ∀a b,b<z.1→a<N.offs.length→ReachL (lnOf N) a b)) (fun z=>N.offs.length-z.1) (0,.slice Y 0 yc,0) ⟨Nat.zero_le _,b13,Nat.le_refl _,hd,hR3,fun g hg=> .inl (by obtain ⟨zs,hO,_⟩:=hR; exact hO.lt hg),Nat.le_refl _,⟨fun _ a b hb=>by omega,fun _=>rfl⟩⟩ ?_
 rintro ⟨b,fv,n⟩ W ⟨hb,hW,hWs,hdW,⟨zs,hO,h2,h3⟩,hdj,hnb,hre⟩
 dsimp only at hb hO h3 hdj hnb hre
 refine rnT ?_
 refine CW.pk [3,4,5,19] rfl ?_
 refine CW.condP rfl (fun hlt=> ?_) (fun hge=> ?_)
 ·have hbN:b<N.offs.length:=by omega
  refine rnT ?_
  refine CW.lp [3,4,5] (fun z:Nat×Bool=> [(6,none,.bool z.2),(7,none,.int .i64 (z.1:Int))])
   (fun z W'=>z.1≤N.offs.length∧W'=W∧(z.2=false↔ ∀i,i<z.1→ReachL (lnOf N) i b)) (fun z=>N.offs.length-z.1) (0,false) ⟨Nat.zero_le _,rfl,⟨fun _ i hi=>by omega,fun _=>rfl⟩⟩ ?_
  rintro ⟨a,cut⟩ W' ⟨ha,rfl,hcut⟩
  dsimp only at ha hcut
  refine rnT ?_
  refine CW.condP rfl (fun hlt2=> ?_) (fun hge2=> ?_)
  ·have haN:a<N.offs.length:=by omega
   obtain ⟨DD,rfl⟩:=hdW.addr (by omega)
   have hra:=hDr a haN
   obtain ⟨rv,hcell,hrow⟩:=hdW.row hra
   obtain ⟨R,rcap,rfl,_⟩:=hrow.form
   have hro:=rowB_ok hL haN
   obtain ⟨rd,rfl⟩:=hrow.addr (by omega)
   obtain ⟨x,hx⟩: ∃x,(rowB (lnOf N) N.offs.length a)[b]?=some x:=⟨_,List.getElem?_eq_getElem (by omega)⟩
   have hgx:gB (rowB (lnOf N) N.offs.length a) b=x:=by unfold gB; rw [List.getD_eq_getElem?_getD,hx]; rfl
   have hiffab:=hro.2.2 b hbN
   rw [hgx] at hiffab
   have hrl:=hro.1
   refine rnT ?_
   refine TW.ld rfl hcell ?_
   refine rnT ?_
   refine TW.ld rfl (hrow.getI hx) ?_
   refine rnT ?_
   refine KW.rd (a+1,cut||decide (x<0)) ⟨by show a+1≤_; omega,rfl,?_⟩
   show (cut||decide (x<0))=false↔ ∀i,i<a+1→ReachL (lnOf N) i b
   rw [Bool.or_eq_false_iff,hcut,decide_eq_false_iff_not]
   constructor
   ·rintro ⟨h1,h2⟩ i hi
    rcases Nat.lt_or_ge i a with h|h
    ·exact h1 i h
    ·have:i=a:=by omega
     subst this
     exact Classical.byContradiction fun h=>h2 (hiffab.2 h)
   ·intro h
    exact ⟨fun i hi=>h i (by omega),fun hx0=>hiffab.1 hx0 (h a (by omega))⟩
  have hae:a=N.offs.length:=by omega
  subst hae
  refine rnT ?_
  refine CW.cond rfl (fun hyes=> ?_) (fun hno=> ?_)
  ·have hcb: ¬ ∀i,i<N.offs.length→ReachL (lnOf N) i b:=fun h=>by rw [hcut.2 h] at hyes; cases hyes
   refine rnT ?_
   refine TW.build [0,1,2] _ [.int .i64 3,.int .i64 (b:Int),.int .i64 111] rfl rfl rfl (Args.cons rfl ct (Args.cons rfl ct (Args.cons rfl ct Args.nil))) (by kernel_rfl) ?_
   refine TW.buildSlice 167 _ rfl rfl rfl eo85 (Args.cons rfl ct Args.nil) rfl rfl rfl rfl rfl ?_
   rintro g5 w5 f5
   refine TW.append [.int .i64 3,.int .i64 (b:Int),.int .i64 111] rfl rfl go85 rfl (hO.below f5.below) rfl rfl (fun j u hj=>⟨_,rfl,f5.blk.fld hj⟩) (fun u hu=>by simp at hu; rcases hu with rfl|rfl|rfl<;>rfl) (by omega) (by omega) ?_
   rintro fv' w6 hO6 hg6 hn6
   refine rnT ?_
   have hW5:=hW.step f5.below
   have hd6:=(hdW.below f5.below).mono (Kept.of_blocks fun k hk hlt=>hg6.block k hlt (fun e=>by have:=hdj k e.symm; omega))
   have hs3:=b13.size
   have hs5:w3.heap.size≤w5.heap.size:=Nat.le_trans hWs f5.below.size
   refine KW.rd (b+1,fv',n+1) ⟨by show b+1≤_; omega,hW5.grown hg6 hW5.size h3,Nat.le_trans hs5 hg6.size,hd6,FRow.app (w:=w5) h3 h2 (fun u hu=>by simp at hu; rcases hu with rfl|rfl|rfl<;>rfl) hO6 hn6 hW5.size,fun g hg=> ?_,by show n+1≤b+1; omega,⟨fun h=>absurd h (Nat.succ_ne_zero n),fun h=>absurd (fun i hi=>h i b (by show b<b+1; omega) hi) hcb⟩⟩
   rcases hn6 with h|h
   ·exact hdj g (by rw [←h]; exact hg)
   ·rw [h] at hg; cases hg; exact .inr hs5
  ·have hall:=hcut.1 hno
   refine rnT ?_
   refine KW.rd (b+1,fv,n) ⟨by show b+1≤_; omega,hW,hWs,hdW,⟨zs,hO,h2,h3⟩,hdj,by show n≤b+1; omega,?_⟩
   show n=0↔ ∀x y,y<b+1→x<N.offs.length→ReachL (lnOf N) x y
   rw [hre]
   refine ⟨fun h x y hy hx=> ?_,fun h x y hy hx=>h x y (by omega) hx⟩
   rcases Nat.lt_or_ge y b with h'|h'
   ·exact h x y h' hx
   ·have:y=b:=by omega
    subst this
    exact hall x hx
 ·have hbl:b=N.offs.length:=by omega
  subst hbl
  obtain ⟨Z,zc,hzv,_⟩:=hO.form
  subst hzv
  refine rnT ?_
  refine rt1 rfl ⟨f1.below.step hW,_,_,_,rfl,?_⟩
  rw [hre]
  exact ⟨fun h=>⟨hcons,fun a b ha hb=>h a b hb ha⟩,fun h a b hb ha=>h.all a b ha hb⟩
theorem rsound_c (hN:NetAt w v N) (hf:FewN N):Gives Tryz.prog 43 #[.agg v.cells.toArray] w fun u w'=>Below w.heap.size w w'∧u= .bool (dec (SoundOK keys11 N)):=by
 have hform:=NetIn.form hN
 obtain ⟨vc,vn,vo,vf,vl,vk⟩:=v
 obtain ⟨⟨A1,c1,e1⟩,⟨A2,c2,e2⟩,⟨A3,c3,e3⟩,⟨A4,c4,e4⟩,⟨A5,c5,e5⟩,⟨A6,c6,e6⟩⟩:=id hform
 dsimp only at e1 e2 e3 e4 e5 e6
 subst e1 e2 e3 e4 e5 e6
 refine gv (f:=43) ?_
 refine rnT ?_
 refine TW.box rfl rfl rfl rfl ?_
 rintro g1 w1 f1
 refine rnT ?_
 have hB1:=f1.blk
 have hN1:=net_step hN f1.below
 refine TW.ldS rfl (fun _ _ hv=>hB1.fld hv) ?_
 refine TW.cl rfl (rcheck_c (v:=⟨.slice A1 N.cals.length c1,.slice A2 N.names.length c2,.slice A3 N.ops.length c3,.slice A4 N.offs.length c4,.slice A5 N.lines.length c5,.slice A6 N.classes.length c6⟩) hN1 hf) ?_
 rintro y2 w2 ⟨d2,A,n,cap,rfl,hiff⟩
 refine rnT ?_
 refine rt1 rfl ⟨f1.below.step d2,?_⟩
 by_cases hc:SoundOK keys11 N
 ·rw [dec_pos hc]
  simp [hiff.2 hc]
 ·rw [dec_neg hc]
  have:n≠0:=fun e=>hc (hiff.1 e)
  simp
  omega
structure FewR (N:Net):Prop where
 c:N.cals.length≤10
 n:N.names.length≤10
 o:N.ops.length≤10
 f:N.offs.length≤16
 l:N.lines.length≤50
 k:N.classes.length≤8
 cal: ∀x∈N.cals,x.week.length≤20∧x.hol.length≤60
 cod: ∀x∈N.offs,x.codes.length≤30
 nam: ∀k,1≤k→k≤5→ ∀s∈namesK N k,s.size≤40
theorem FewR.few (h:FewR N):FewN N:=⟨by have:=h.c; omega,by have:=h.n; omega,by have:=h.o; omega,by have:=h.f; omega,by have:=h.l; omega,by have:=h.k; omega⟩
theorem rfew_c (hN:NetAt w v N):Gives Tryz.prog 34 #[.agg v.cells.toArray] w fun u w'=>Below w.heap.size w w'∧u= .bool (dec (FewR N)):=by
 have hform:=NetIn.form hN
 obtain ⟨vc,vn,vo,vf,vl,vk⟩:=v
 obtain ⟨⟨A1,c1,e1⟩,⟨A2,c2,e2⟩,⟨A3,c3,e3⟩,⟨A4,c4,e4⟩,⟨A5,c5,e5⟩,⟨A6,c6,e6⟩⟩:=id hform
 dsimp only at e1 e2 e3 e4 e5 e6
 subst e1 e2 e3 e4 e5 e6
 refine gv (f:=34) ?_
 refine rnT ?_
 refine TW.box rfl rfl rfl rfl ?_
 rintro g1 w1 f1
 refine rnT ?_
 have hB1:=f1.blk
 have hN1:=net_step hN f1.below
 have b1:=f1.below
 refine TW.ld rfl (hB1.fld rfl) ?_
 refine rnT ?_
 refine TW.ld rfl (hB1.fld rfl) ?_
 refine rnT ?_
 refine TW.ld rfl (hB1.fld rfl) ?_
 refine rnT ?_
 refine TW.ld rfl (hB1.fld rfl) ?_
 refine rnT ?_
 refine TW.ld rfl (hB1.fld rfl) ?_
 refine rnT ?_
 refine TW.ld rfl (hB1.fld rfl) ?_
 refine rnT ?_
 refine CW.pk [0,1,2,41] rfl ?_
 refine CW.cond rfl (fun hbad=> ?_) (fun hgood=> ?_)
 ·refine rnT ?_
  refine rt1 rfl ⟨b1,?_⟩
  rw [dec_neg fun h=> ?_]
  have q1:=h.c
  have q2:=h.n
  have q3:=h.o
  have q4:=h.f
  have q5:=h.l
  have q6:=h.k
  simp at hbad
  omega
 have hg:(N.cals.length≤10∧N.names.length≤10∧N.ops.length≤10)∧N.offs.length≤16∧N.lines.length≤50∧N.classes.length≤8:=by
  simp at hgood
  omega
 have hf:FewN N:=⟨by omega,by omega,by omega,by omega,by omega,by omega⟩
 refine rnT ?_
 refine CW.lp [1] (fun i:Nat=> [(3,none,.int .i64 (i:Int))])
  (fun i W=>i≤N.cals.length∧Below w1.heap.size w1 W∧ ∀x∈N.cals.take i,x.week.length≤20∧x.hol.length≤60) (fun i=>N.cals.length-i) 0 ⟨Nat.zero_le _,Below.refl _ _,fun x hx=>by simp at hx⟩ ?_
 rintro i W ⟨hi,hW,hok⟩
 have hBW:=hB1.next hW
 refine rnT ?_
 refine TW.ld rfl (hBW.fld rfl) ?_
 refine rnT ?_
 refine CW.condP rfl (fun hlt=> ?_) (fun hge=> ?_)
 ·obtain ⟨x,hx,hxm⟩:=getx (l:=N.cals) (k:=i) (by omega)
  have hnW:=hN1.c.below hW
  obtain ⟨ad,rfl⟩:=hnW.addr (by omega)
  obtain ⟨ad',cs,e9,hF9,hrep9,hc9⟩:=hnW.at hx
  cases e9
  obtain ⟨u1,u2,rfl,q1,q2,q3⟩:=hrep9
  refine rnT ?_
  refine TW.ld rfl (hBW.fld rfl) ?_
  refine rnT ?_
  refine TW.ldS rfl (hc9) ?_
  refine TW.cl rfl (rsmall_c (u:=u1) (v:=u2) ⟨q1,q2,q3⟩) ?_
  rintro y5 w5 ⟨d5,rfl⟩
  refine rnT ?_
  refine CW.pk [1,3,55] rfl ?_
  refine CW.cond rfl (fun hb1=> ?_) (fun hb2=> ?_)
  ·refine rnT ?_
   refine rt1 rfl ⟨(b1.step hW).step d5,?_⟩
   rw [dec_neg fun h=> ?_]
   have:=h.cal x hxm
   simp [this.1,this.2] at hb1
  ·refine rnT ?_
   refine KW.rd (i+1) ⟨by omega,hW.step d5,fun z hz=> ?_⟩
   rw [List.take_add_one,hx] at hz
   rcases List.mem_append.1 hz with hz|hz
   ·exact hok z hz
   ·simp at hz
    subst hz
    simpa using hb2
 rw [List.take_of_length_le (by omega)] at hok
 refine rnT ?_
 refine CW.lp [1] (fun j:Nat=> [(4,none,.int .i64 (j:Int))])
  (fun j W'=>j≤N.offs.length∧W'=W∧ ∀x∈N.offs.take j,x.codes.length≤30) (fun j=>N.offs.length-j) 0 ⟨Nat.zero_le _,rfl,fun x hx=>by simp at hx⟩ ?_
 rintro j W' ⟨hj,rfl,hcok⟩
 refine rnT ?_
 refine TW.ld rfl (hBW.fld rfl) ?_
 refine rnT ?_
 refine CW.condP rfl (fun hlt2=> ?_) (fun hge2=> ?_)
 ·obtain ⟨x,hx,hxm⟩:=getx (l:=N.offs) (k:=j) (by omega)
  have hnW:=hN1.f.below hW
  obtain ⟨ad,rfl⟩:=hnW.addr (by omega)
  obtain ⟨ad',cs,e9,hF9,hrep9,hc9⟩:=hnW.at hx
  cases e9
  obtain ⟨u1,rfl,q1,q2,q3,q4,q5,q6,q7⟩:=hrep9
  obtain ⟨U,ucap,rfl,_⟩:=q7.form
  refine rnT ?_
  refine TW.ld rfl (hBW.fld rfl) ?_
  refine rnT ?_
  refine TW.ld rfl (hc9 6 _ rfl) ?_
  refine rnT ?_
  refine CW.pk [1,4,70] rfl ?_
  refine CW.condP rfl (fun hb1=> ?_) (fun hb2=> ?_)
  ·refine rnT ?_
   refine rt1 rfl ⟨b1.step hW,?_⟩
   rw [dec_neg fun h=> ?_]
   have:=h.cod x hxm
   omega
  ·refine rnT ?_
   refine KW.rd (j+1) ⟨by omega,rfl,fun z hz=> ?_⟩
   rw [List.take_add_one,hx] at hz
   rcases List.mem_append.1 hz with hz|hz
   ·exact hcok z hz
   ·simp at hz
    subst hz
    omega
 rw [List.take_of_length_le (by omega)] at hcok
 refine rnT ?_
 refine CW.lp [1] (fun k:Nat=> [(5,none,.int .i64 (k:Int))])
  (fun k W'=>1≤k∧k≤6∧Below w1.heap.size w1 W'∧ ∀j,1≤j→j<k→ ∀s∈namesK N j,s.size≤40) (fun k=>6-k) 1 ⟨Nat.le_refl _,by decide,hW,fun j h1 h2=>by omega⟩ ?_
 rintro k W2 ⟨hk1,hk6,hW2,hnok⟩
 have hBW2:=hB1.next hW2
 have hNW2:=net_step hN1 hW2
 refine rnT ?_
 refine CW.condP rfl (fun hlt3=> ?_) (fun hge3=> ?_)
 ·have hk5:k≤5:=by omega
  have hnl:=hf.names k
  refine rnT ?_
  refine TW.ldS rfl (fun _ _ hv=>hBW2.fld hv) ?_
  refine rnT ?_
  refine TW.cl rfl (names_c (v:=⟨.slice A1 N.cals.length c1,.slice A2 N.names.length c2,.slice A3 N.ops.length c3,.slice A4 N.offs.length c4,.slice A5 N.lines.length c5,.slice A6 N.classes.length c6⟩) hNW2 hf hk1 hk5) ?_
  rintro y5 w5 ⟨d5,hR⟩
  obtain ⟨A,cap,rfl⟩:=hR.form
  refine rnT ?_
  refine CW.lp [1,5,6] (fun i:Nat=> [(7,none,.int .i64 (i:Int))])
   (fun i W'=>i≤(namesK N k).length∧W'=w5∧ ∀s∈(namesK N k).take i,s.size≤40) (fun i=>(namesK N k).length-i) 0 ⟨Nat.zero_le _,rfl,fun x hx=>by simp at hx⟩ ?_
  rintro i W3 ⟨hi,rfl,hiok⟩
  refine rnT ?_
  refine CW.pk [1,5,6,7,81] rfl ?_
  refine CW.condP rfl (fun hlt4=> ?_) (fun hge4=> ?_)
  ·obtain ⟨s,hs,hsm⟩:=getx (l:=namesK N k) (k:=i) (by omega)
   obtain ⟨g,rfl,hsc⟩:=hR.at hs
   refine rnT ?_
   refine TW.ld rfl hsc ?_
   refine rnT ?_
   refine CW.condP rfl (fun hb1=> ?_) (fun hb2=> ?_)
   ·refine rnT ?_
    refine rt1 rfl ⟨(b1.step hW2).step d5,?_⟩
    rw [dec_neg fun h=> ?_]
    have:=h.nam k hk1 hk5 s hsm
    omega
   ·refine rnT ?_
    refine KW.rd (i+1) ⟨by omega,rfl,fun z hz=> ?_⟩
    rw [List.take_add_one,hs] at hz
    rcases List.mem_append.1 hz with hz|hz
    ·exact hiok z hz
    ·simp at hz
     subst hz
     omega
  ·rw [List.take_of_length_le (by omega)] at hiok
   refine rnT ?_
   refine KW.rd (k+1) ⟨by omega,by omega,hW2.step d5,fun j h1 h2=> ?_⟩
   rcases Nat.lt_or_ge j k with h|h
   ·exact hnok j h1 h
   ·have:j=k:=by omega
    subst this
    exact hiok
 ·refine rnT ?_
  refine rt1 rfl ⟨b1.step hW2,?_⟩
  rw [dec_pos ⟨hg.1.1,hg.1.2.1,hg.1.2.2,hg.2.1,hg.2.2.1,hg.2.2.2,hok,hcok,fun j h1 h5=>hnok j h1 (by omega)⟩]
end Go.Proofs.YtobaafdejnimkaaGreatDoor
namespace Go.PF
open Go.RowKit
end Go.PF
namespace Go.Proofs.YtobaafdejnimkaaGreatDoor
open Go.PF Go.RowKit Go.Ord
attribute [local irreducible] TW CW KW DW
theorem rfitting_c {w:World} {dv lv:Value} {d:Dist} {l:List Ev} {W:Option Addr} {nw wc:Nat} (hd:SD w dv d) (hl:SE w lv l):Gives Tryz.prog 44 #[dv,lv,.slice W nw wc] w fun x w'=>Below w.heap.size w w'∧x= .bool (dec (FitW d l nw)):=by
 obtain ⟨A,cap,rfl,_⟩:=hd.form
 obtain ⟨B,bcap,rfl,_⟩:=hl.form
 refine gv (f:=44) ?_
 refine rnT ?_
 refine TW.callF (cap:= []) rfl rfl en96 rfl ct (Args.cons rfl id (Args.cons rfl id (Args.cons rfl ct Args.nil))) (fun _=>rvalid27_c hd hl) ?_
 rintro w3 c3
 refine rnT ?_
 refine rt1 rfl ⟨c3,?_⟩
 by_cases hf:FitW d l nw
 ·rw [dec_pos hf,dec_pos hf.wfe]
  have h1:=hf.few
  have h2:=hf.worlds
  simp
  omega
 ·rw [dec_neg hf]
  by_cases hw:WfE d l
  ·rw [dec_pos hw]
   have: ¬(l.length≤14∧nw≤400):=fun h=>hf ⟨h.1,h.2,hw.wd,hw.each⟩
   congr 1
   simp
   omega
  ·rw [dec_neg hw]
   simp
structure LightP (N:Net) (d:Dist) (l:List Ev) (ws:List (List Int)):Prop where
 net:FewR N
 offs:N.offs.length≤5
 lines:N.lines.length≤10
 few:FewP d l
 ws12:ws.length≤12
 each: ∀S∈ws,S.length≤6
theorem rlight_c {w:World} {v:NV} {N:Net} {dv lv wv:Value} {d:Dist} {l:List Ev} {ws:List (List Int)} (hN:NetAt w v N) (hd:SD w dv d) (hl:SE w lv l) (hS:SD w wv ws) :
  Gives Tryz.prog 11 #[.agg v.cells.toArray,dv,lv,wv] w fun x w'=>Below w.heap.size w w'∧x= .bool (dec (LightP N d l ws)):=by
 have hform:=NetIn.form hN
 obtain ⟨X,xcap,rfl,_⟩:=hS.form
 have hmax:=hS.len.2.2
 have hv: ∃A4 c4,v.f= .slice A4 N.offs.length c4:=hform.f
 have hv5: ∃A5 c5,v.l= .slice A5 N.lines.length c5:=hform.l
 obtain ⟨vc,vn,vo,vf,vl,vk⟩:=v
 obtain ⟨A4,c4,e4⟩:=hv
 obtain ⟨A5,c5,e5⟩:=hv5
 dsimp only at e4 e5
 subst e4 e5
 refine gv (f:=11) ?_
 refine rnT ?_
 refine TW.box rfl rfl rfl rfl ?_
 rintro g4 w1 f1
 refine rnT ?_
 have hB1:=f1.blk
 refine CW.lp [1,2,3,4] (fun i:Nat=> [(9,none,.int .i64 (i:Int))])
  (fun i W=>i≤ws.length∧W=w1∧ ∀S∈ws.take i,S.length≤6) (fun i=>ws.length-i) 0 ⟨Nat.zero_le _,rfl,fun S hS=>by simp at hS⟩ ?_
 rintro i W ⟨hi,rfl,hall⟩
 refine rnT ?_
 refine CW.condP rfl (fun hlt=> ?_) (fun hge=> ?_)
 ·have hSW:=hS.below f1.below
  obtain ⟨S,hS1,hSm⟩:=getx (l:=ws) (k:=i) (by omega)
  obtain ⟨ad,rfl⟩:=hSW.addr (by omega)
  obtain ⟨sv,hcell,hrow⟩:=hSW.row hS1
  obtain ⟨C,scap,rfl,_⟩:=hrow.form
  refine rnT ?_
  refine TW.ld rfl hcell ?_
  refine rnT ?_
  refine CW.pk [1,2,3,4,9,21] rfl ?_
  refine CW.condP rfl (fun hbig=> ?_) (fun hsmall=> ?_)
  ·refine rnT ?_
   refine rt1 rfl ⟨f1.below,?_⟩
   rw [dec_neg fun h=>by have:=h.each S hSm; omega]
  ·refine rnT ?_
   refine KW.rd (i+1) ⟨by omega,rfl,fun T hT=> ?_⟩
   rw [List.take_add_one,hS1] at hT
   rcases List.mem_append.1 hT with hT|hT
   ·exact hall T hT
   ·simp at hT
    subst hT
    omega
 ·rw [List.take_of_length_le (by omega)] at hall
  refine rnT ?_
  refine TW.ldS rfl (fun _ _ hv=>hB1.fld hv) ?_
  refine TW.cl rfl (rfew_c (net_step hN f1.below)) ?_
  rintro y w2 ⟨b2,rfl⟩
  have hB2:=hB1.next b2
  have b02:=f1.below.step b2
  refine rnT ?_
  refine TW.ld rfl (hB2.fld rfl) ?_
  refine rnT ?_
  refine TW.ld rfl (hB2.fld rfl) ?_
  refine rnT ?_
  refine TW.callF (cap:= []) rfl rfl en35 rfl ct (Args.cons rfl id (Args.cons rfl id Args.nil)) (fun _=>rfew28_c (sd_step hd b02) (se_step hl b02)) ?_
  rintro w3 b3
  refine rnT ?_
  refine rt1 rfl ⟨b02.step b3,?_⟩
  congr 1
  by_cases hL:LightP N d l ws
  ·rw [dec_pos hL,dec_pos hL.net,dec_pos hL.few]
   have h1:=hL.offs
   have h2:=hL.lines
   have h3:=hL.ws12
   simp
   omega
  ·rw [dec_neg hL]
   by_cases hn:FewR N
   ·by_cases hf:FewP d l
    ·rw [dec_pos hn,dec_pos hf]
     have: ¬(N.offs.length≤5∧N.lines.length≤10∧ws.length≤12):=fun h=>hL ⟨hn,h.1,h.2.1,hf,h.2.2,hall⟩
     simp
     omega
    ·rw [dec_neg hf]
     simp
   ·rw [dec_neg hn]
    simp
end Go.Proofs.YtobaafdejnimkaaGreatDoor
namespace Go.Proofs.YtobaafdejnimkaaGreatDoor
open Go.PF Go.RowKit Go.Ord
variable {t o τ:Int}
def bya (n:UInt8):ByteArray:=⟨#[n]⟩
def ofA:Of:=⟨bya 97,0,0,8,2,10,[]⟩
def ofB:Of:=⟨bya 98,1,0,8,2,10,[]⟩
def liX:Li:=⟨bya 120,0,1,0,60,1⟩
def liY:Li:=⟨bya 121,1,0,0,60,1⟩
def N0:Net:=⟨[⟨0,[true,true,true,true,true,false,false],[]⟩],[bya 99],[bya 112,bya 113],[ofA,ofB],[liX,liY],[]⟩
def d0:Dist:= [[0,60],[60,0]]
def e0:Ev:=⟨0,100,100,[0]⟩
def e1:Ev:=⟨1,150,160,[1]⟩
def ev1:List Ev:= [e0]
def ev2:List Ev:= [e1,e0]
theorem wfd0:WfD d0:=by
 have two: ∀i,i<List.length d0→i=0∨i=1:=fun i hi=>by simp [d0] at hi; omega
 refine ⟨by decide,fun i r hr=> ?_,by decide,fun i j hi hj=> ?_,fun i k j hi hk hj=> ?_⟩
 rotate_left
 ·rcases two i hi with rfl|rfl<;>rcases two j hj with rfl|rfl<;>decide
 ·rcases two i hi with rfl|rfl<;>rcases two j hj with rfl|rfl<;>rcases two k hk with rfl|rfl<;>decide
 match i,hr with
 | 0,hr=>cases hr; rfl
 | 1,hr=>cases hr; rfl
 | i+2,hr=>simp [d0] at hr
theorem keys_big: ∀k∈keys11,2≤k.size:=by
 intro k hk
 have h:(keys11.all fun k=>decide (2≤k.size))=true:=by kernel_rfl
 exact of_decide_eq_true (List.all_eq_true.1 h k hk)
theorem name1 {n:UInt8} (h1:97≤n.toNat) (h2:n.toNat≤122):NameOK keys11 (bya n):=by
 have hsz:(bya n).size=1:=rfl
 have h0:byteA (bya n) 0=n.toNat:=rfl
 refine ⟨by rw [hsz]; omega,by rw [hsz]; omega,by rw [h0]; exact ⟨h1,h2⟩,fun i hi=> ?_,fun hk=> ?_⟩
 ·rw [hsz] at hi
  have:i=0:=by omega
  subst this
  rw [h0]
  exact .inl ⟨h1,h2⟩
 ·have:=keys_big _ hk
  rw [hsz] at this
  omega
theorem bya_ne {a b:UInt8} (h:a≠b):bya a≠bya b:=fun e=>h (by have:=congrArg (fun x:ByteArray=>x.data.getD 0 0) e; exact this)
theorem off0_ok {o:Of} (h:(o.op=0∨o.op=1)∧o.cal=0∧o.pock=8∧o.pass=2∧o.mins=10∧o.codes= []):OfOK N0 o:=by
 obtain ⟨h1,h2,h3,h4,h5,h6⟩:=h
 have n1:N0.ops.length=2:=rfl
 have n2:N0.cals.length=1:=rfl
 exact ⟨by omega,by omega,by omega,by omega,by rw [h6]; simp,(fun c hc=>by rw [h6] at hc; cases hc),by omega,by omega,by omega,by omega,by omega,by omega⟩
theorem sound0:SoundOK keys11 N0:=by
 refine ⟨⟨rfl,⟨by decide,fun s hs=> ?_,by simp [N0],fun c hc=> ?_⟩,⟨by decide,fun s hs=> ?_,?_,fun _ _=>trivial⟩,⟨by decide,fun s hs=> ?_,?_,fun o ho=> ?_⟩,⟨by decide,fun s hs=> ?_,?_,fun l hl=> ?_⟩,⟨by decide,(fun s hs=>by cases hs),List.nodup_nil,(fun x hx=>by cases hx)⟩⟩,fun a b ha hb=> ?_⟩
 ·rw [List.mem_singleton.1 hs]; exact name1 (by decide) (by decide)
 ·rw [List.mem_singleton.1 hc]
  exact ⟨by decide,by decide,rfl,by decide,fun i x y hx=>by simp at hx⟩
 ·have hs:s∈ [bya 112,bya 113]:=hs
  simp only [List.mem_cons,List.not_mem_nil,or_false] at hs
  rcases hs with rfl|rfl<;>exact name1 (by decide) (by decide)
 ·show [bya 112,bya 113].Nodup
  simp only [List.nodup_cons,List.mem_singleton,List.not_mem_nil,not_false_eq_true,List.nodup_nil,and_true]
  exact bya_ne (by decide)
 ·have hs:s∈ [bya 97,bya 98]:=hs
  simp only [List.mem_cons,List.not_mem_nil,or_false] at hs
  rcases hs with rfl|rfl<;>exact name1 (by decide) (by decide)
 ·show [bya 97,bya 98].Nodup
  simp only [List.nodup_cons,List.mem_singleton,List.not_mem_nil,not_false_eq_true,List.nodup_nil,and_true]
  exact bya_ne (by decide)
 ·have ho:o∈ [ofA,ofB]:=ho
  simp only [List.mem_cons,List.not_mem_nil,or_false] at ho
  rcases ho with rfl|rfl<;>exact off0_ok ⟨by decide,rfl,rfl,rfl,rfl,rfl⟩
 ·have hs:s∈ [bya 120,bya 121]:=hs
  simp only [List.mem_cons,List.not_mem_nil,or_false] at hs
  rcases hs with rfl|rfl<;>exact name1 (by decide) (by decide)
 ·show [bya 120,bya 121].Nodup
  simp only [List.nodup_cons,List.mem_singleton,List.not_mem_nil,not_false_eq_true,List.nodup_nil,and_true]
  exact bya_ne (by decide)
 ·have hl:l∈ [liX,liY]:=hl
  simp only [List.mem_cons,List.not_mem_nil,or_false] at hl
  rcases hl with rfl|rfl<;>exact ⟨by decide,by decide,by decide,by decide,by decide,by decide,by decide,by decide,by decide,by decide,by decide⟩
 ·have two: ∀i,i<N0.offs.length→i=0∨i=1:=fun i hi=>by have:N0.offs.length=2:=rfl; omega
  have hx:(0,1,60)∈lnOf N0:=by show (0,1,60)∈ [(0,1,(60:Int)),(1,0,60)]; simp
  have hy:(1,0,60)∈lnOf N0:=by show (1,0,60)∈ [(0,1,(60:Int)),(1,0,60)]; simp
  rcases two a ha with rfl|rfl<;>rcases two b hb with rfl|rfl
  ·exact .refl _
  ·exact ReachL.one hx
  ·exact ReachL.one hy
  ·exact .refl _
theorem fold_fix {α β:Type} {f:α→β→α} {x:α}: ∀ {l:List β},(∀y∈l,f x y=x)→l.foldl f x=x
 | [],_=>rfl
 | y::l,h=>by rw [List.foldl_cons,h y (by simp)]; exact fold_fix fun z hz=>h z (by simp [hz])
def M1:Tab12:=(init12.set 1 60).set 12 60
theorem lines0:lines12 init12 [(0,1,60),(1,0,60)]=M1:=by
 have h1:relax12 init12 0 1 60=init12.set 1 60:=by
  unfold relax12
  rw [if_pos (.inl (by decide))]
 have h2:relax12 (init12.set 1 60) 1 0 60=M1:=by
  unfold relax12
  rw [if_pos (.inl (by decide))]
  rfl
 show relax12 (relax12 init12 0 1 60) 1 0 60=M1
 rw [h1,h2]
theorem fix_check:((List.range 12).all fun o=>(List.range 12).all fun a=>(List.range 12).all fun b=> !(decide (g12 M1 a o≠ -1)&&decide (g12 M1 o b≠ -1))|| !(decide (g12 M1 a b= -1)||decide (g12 M1 a o+g12 M1 o b<g12 M1 a b)))=true:=by decide +kernel
theorem via_fix {o a b:Nat} (ho:o<12) (ha:a<12) (hb:b<12):via12 o a M1 b=M1:=by
 have h:=List.all_eq_true.1 (List.all_eq_true.1 (List.all_eq_true.1 fix_check o (List.mem_range.2 ho)) a (List.mem_range.2 ha)) b (List.mem_range.2 hb)
 unfold via12
 split
 ·rename_i hc
  unfold relax12
  rw [if_neg]
  intro hn
  rw [decide_eq_true hc.1,decide_eq_true hc.2] at h
  simp at h
  rcases hn with hn|hn
  ·exact h.1 hn
  ·omega
 ·rfl
theorem all_fix:all12 M1 12=M1:=by
 unfold all12
 refine fold_fix fun o ho=> ?_
 unfold rnd12
 refine fold_fix fun a ha=> ?_
 unfold row12
 exact fold_fix fun b hb=>via_fix (List.mem_range.1 ho) (List.mem_range.1 ha) (List.mem_range.1 hb)
theorem dist00:distG (relaxed12 [(0,1,60),(1,0,60)]) 2= [[0,60],[60,0]]:=by
 unfold relaxed12
 rw [lines0,all_fix]
 decide +kernel
theorem dist0:distG (relaxed12 (lnOf N0)) 2=d0:=dist00
theorem eok0 {e:Ev} (h:e.office=0∨e.office=1):EOK d0 e:=by
 have:List.length d0=2:=rfl
 rcases h with h|h<;>exact ⟨by omega,by omega⟩
theorem wfe0 {r:List Ev} (hr: ∀e∈r,e.office=0∨e.office=1) (hl:r.length≤8):WfE d0 r:=⟨wfd0,by omega,fun e he=>eok0 (hr e he)⟩
theorem off1: ∀e∈ev1,e.office=0∨e.office=1:=by decide
theorem off2: ∀e∈ev2,e.office=0∨e.office=1:=by decide
theorem only1 {l:List ET} (hl:l.map (·.1)=ev1) (h:HoldsN d0 l):l= [(e0,100)]:=by
 obtain ⟨a,rfl⟩: ∃a,l= [a]:=by
  have hn:=congrArg List.length hl
  simp [ev1] at hn
  exact List.length_eq_one_iff.1 hn
 simp [ev1] at hl
 have q1:=h.each a (by simp)
 obtain ⟨a1,a2⟩:=a
 dsimp only at hl
 subst hl
 simp [e0] at q1
 have h1:a2=100:=by omega
 rw [h1]
theorem holds1:HoldsN d0 [(e0,100)]:=⟨fun x hx=>by rw [List.mem_singleton.1 hx]; simp [e0],List.pairwise_singleton _ _⟩
theorem holds2:HoldsN d0 [(e1,160),(e0,100)]:=⟨fun x hx=>by
 simp only [List.mem_cons,List.not_mem_nil,or_false] at hx
 rcases hx with rfl|rfl<;>simp [e0,e1],by
 simp [Aft,at2,d0,e0,e1]⟩
theorem poss1:Poss d0 ev1:=⟨[(e0,100)],rfl,holds1⟩
theorem pv1:PV d0 ev1 o τ↔0≤τ∧τ≤1000000∧(ToO d0 (e0,100) o τ∨FrO d0 o τ (e0,100)):=by
 unfold PV
 refine and_congr_right fun _=>and_congr_right fun _=> ?_
 constructor
 ·rintro ⟨l,hl,h,hx⟩
  rw [only1 hl h] at hx
  exact hx _ (by simp)
 ·intro h1
  exact ⟨[(e0,100)],rfl,holds1,fun x hx=>by rw [List.mem_singleton.1 hx]; exact h1⟩
theorem pj1 {a b:Ev} {g:Int}:PossJ d0 ev1 a b g↔LegOK d0 a b g∧ ∃t,OKt a t∧OKt b (t+g)∧(Aft d0 (e0,100) (a,t)∨Aft d0 (b,t+g) (e0,100)):=by
 unfold PossJ
 refine and_congr_right fun _=> ?_
 constructor
 ·rintro ⟨l,t,hl,h,h2,h3,h4⟩
  rw [only1 hl h] at h4
  exact ⟨t,h2,h3,h4 _ (by simp)⟩
 ·rintro ⟨t,h2,h3,h4⟩
  exact ⟨[(e0,100)],t,rfl,holds1,h2,h3,fun x hx=>by rw [List.mem_singleton.1 hx]; exact h4⟩
theorem pos_at {f:Int} (ho:o=0∨o=1) (h: ∃τ,f≤τ∧τ≤t∧PV d0 ev1 o τ):(Knd.at o f t).b d0 ev1=true:=at_iff.2 ⟨wfe0 (fun e he=>by
 rcases List.mem_append.1 he with he|he
 ·exact off1 e he
 ·rw [List.mem_singleton.1 he]; exact ho) (by simp [ev1]),h⟩
theorem neg_at {f:Int} (h: ¬ ∃τ,f≤τ∧τ≤t∧PV d0 ev1 o τ):(Knd.at o f t).b d0 ev1=false:=by
 cases hq:(Knd.at o f t).b d0 ev1 with
 | false=>rfl
 | true=>exact absurd (at_iff.1 hq).2 h
theorem at0_iff:PV d0 ev1 0 τ↔0≤τ∧τ≤1000000:=by
 rw [pv1]
 simp [ToO,FrO,at2,d0,e0]
 omega
theorem at1_iff:PV d0 ev1 1 τ↔0≤τ∧τ≤1000000∧(τ≤40∨160≤τ):=by
 rw [pv1]
 simp [ToO,FrO,at2,d0,e0]
 omega
theorem onx_iff:PossJ d0 ev1 (lvE liX t) (arE liX t) liX.trav↔ ∃τ,0≤τ∧τ+60≤1000000∧t-59≤τ∧τ≤t-1∧(100≤τ∨τ≤ -20):=by
 rw [pj1]
 simp [LegOK,OKt,Aft,at2,d0,e0,lvE,arE,liX]
 refine exists_congr fun τ=> ?_
 omega
theorem ony_iff:PossJ d0 ev1 (lvE liY t) (arE liY t) liY.trav↔ ∃τ,0≤τ∧τ+60≤1000000∧t-59≤τ∧τ≤t-1∧(τ≤40∨160≤τ):=by
 rw [pj1]
 simp [LegOK,OKt,Aft,at2,d0,e0,lvE,arE,liY]
 refine exists_congr fun τ=> ?_
 omega
theorem pos_on {l:Li} (hl:l=liX∨l=liY) (h:PossJ d0 ev1 (lvE l t) (arE l t) l.trav):(Knd.on l t).b d0 ev1=true:=on_iff.2 ⟨wfe0 (fun e he=>by
 simp only [ev1,List.cons_append,List.nil_append,List.mem_cons,List.not_mem_nil,or_false] at he
 rcases he with rfl|rfl|rfl<;>rcases hl with rfl|rfl<;>simp [lvE,arE,liX,liY,e0]) (by simp [ev1]),h⟩
theorem neg_on {l:Li} (h: ¬PossJ d0 ev1 (lvE l t) (arE l t) l.trav):(Knd.on l t).b d0 ev1=false:=by
 cases hq:(Knd.on l t).b d0 ev1 with
 | false=>rfl
 | true=>exact absurd (on_iff.1 hq).2 h
theorem fit1:FitW d0 ev1 1:=⟨by decide,by decide,wfd0,fun e he=>eok0 (off1 e he)⟩
theorem fit2:FitW d0 ev2 1:=⟨by decide,by decide,wfd0,fun e he=>eok0 (off2 e he)⟩
theorem pok1 (h0:0≤t) (h1:t≤1000000):PossOK N0 d0 ev1 1 t:=⟨sound0,fit1,rfl,h0,h1⟩
theorem can1 {k:Knd}:canB d0 (restsS ev1 [[]]) k=k.b d0 ev1:=by
 show ([restS ev1 []].any (k.b d0))=_
 rw [show restS ev1 []=ev1 from rfl]
 simp
theorem poss0 (h0:0≤t) (h1:t≤1000000):possS N0 d0 ev1 [[]] t=(if (Knd.at 0 t t).b d0 ev1 then [(0,-1)] else [])++((if (Knd.at 1 t t).b d0 ev1 then [(1,-1)] else [])++((if (Knd.on liX t).b d0 ev1 then [(-1,0)] else [])++(if (Knd.on liY t).b d0 ev1 then [(-1,1)] else []))):=by
 rw [poss_eq (pok1 h0 h1)]
 unfold spotsS
 simp only [can1]
 show (List.filter (fun p:Spt×Knd=>p.2.b d0 ev1) [((0,-1),.at 0 t t),((1,-1),.at 1 t t),((-1,0),.on liX t),((-1,1),.on liY t)]).map (·.1)=_
 simp only [List.filter]
 cases (Knd.at 0 t t).b d0 ev1<;>cases (Knd.at 1 t t).b d0 ev1<;>cases (Knd.on liX t).b d0 ev1<;>cases (Knd.on liY t).b d0 ev1<;>rfl
theorem p150:possS N0 d0 ev1 [[]] 150= [(0,-1),(-1,0)]:=by
 rw [poss0 (by decide) (by decide),pos_at (.inl rfl) ⟨150,by decide,by decide,at0_iff.2 ⟨by decide,by decide⟩⟩,neg_at (fun ⟨τ,h1,h2,h3⟩=>by have:=at1_iff.1 h3; omega),pos_on (.inl rfl) (onx_iff.2 ⟨100,by decide⟩),neg_on (fun h=>by obtain ⟨τ,h⟩:=ony_iff.1 h; omega)]
 rfl
theorem p160:possS N0 d0 ev1 [[]] 160= [(0,-1),(1,-1),(-1,0)]:=by
 rw [poss0 (by decide) (by decide),pos_at (.inl rfl) ⟨160,by decide,by decide,at0_iff.2 ⟨by decide,by decide⟩⟩,pos_at (.inr rfl) ⟨160,by decide,by decide,at1_iff.2 ⟨by decide,by decide,by decide⟩⟩,pos_on (.inl rfl) (onx_iff.2 ⟨110,by decide⟩),neg_on (fun h=>by obtain ⟨τ,h⟩:=ony_iff.1 h; omega)]
 rfl
theorem own0:ownS N0 (0,-1)=0∧ownS N0 (1,-1)=1∧ownS N0 (-1,0)=0:=by
 unfold ownS
 rw [dec_pos sound0.cons]
 exact ⟨rfl,rfl,rfl⟩
theorem h150:holdS N0 d0 ev1 [[]] 150= [0]:=by
 refine lt_ext hold_lt (List.pairwise_singleton _ _) fun o=> ?_
 rw [hold_mem,p150]
 simp [own0.1,own0.2.2]
 omega
theorem h160:holdS N0 d0 ev1 [[]] 160= [0,1]:=by
 refine lt_ext hold_lt (by simp) fun o=> ?_
 rw [hold_mem,p160]
 simp [own0.1,own0.2.1,own0.2.2]
 omega
theorem r150:reachS d0 ev1 [[]] 1 100 150=false:=by
 unfold reachS
 rw [can1,neg_at (fun ⟨τ,h1,h2,h3⟩=>by have:=at1_iff.1 h3; omega),Bool.and_false]
theorem r160:reachS d0 ev1 [[]] 1 100 160=true:=by
 unfold reachS
 rw [can1,show ([[]]:List (List Int)).length=1 from rfl,dec_pos fit1,pos_at (.inr rfl) ⟨160,by decide,by decide,at1_iff.2 ⟨by decide,by decide,by decide⟩⟩]
 rfl
theorem q160:reachS d0 ev2 [[]] 1 100 160=true:=by
 unfold reachS
 rw [show ([[]]:List (List Int)).length=1 from rfl,dec_pos fit2]
 refine Bool.and_eq_true_iff.2 ⟨rfl,can_iff.2 ⟨ev2,by simp [restsS]; rfl,at_iff.2 ⟨wfe0 (by decide) (by decide),160,by decide,by decide,by decide,by decide,[(e1,160),(e0,100)],rfl,holds2,fun x hx=> ?_⟩⟩⟩
 simp only [List.mem_cons,List.not_mem_nil,or_false] at hx
 rcases hx with rfl|rfl<;>simp [ToO,FrO,at2,d0,e0,e1]
theorem se1:seenS ev1 [[]] 1 160=false:=by decide
theorem se2:seenS ev2 [[]] 1 160=true:=by decide
theorem wfp1:WfP d0 ev1:=⟨wfd0,by decide,fun e he=>eok0 (off1 e he),by decide⟩
theorem worlds1:worldsS d0 ev1 0= [[]]:=by
 unfold worldsS
 rw [if_pos ⟨dec_pos wfp1,by decide,by decide,by decide⟩]
 show ([[]]:List (List Int)).filter _=_
 rw [List.filter_cons_of_pos]
 ·rfl
 ·exact dec_pos (p:=Poss d0 (restS ev1 [])) poss1
theorem werr1:worldsE d0 ev1 0=0:=by
 unfold worldsE
 rw [if_pos ⟨dec_pos wfp1,by decide,by decide⟩,if_pos (by decide),if_neg (by rw [worlds1]; simp)]
theorem fitted1:Fitted d0 ev1:=⟨⟨wfd0,by decide,fun e he=>eok0 (off1 e he)⟩,poss1⟩
end Go.Proofs.YtobaafdejnimkaaGreatDoor
namespace Go.Proofs.YtobaafdejnimkaaGreatDoor
open Go.PF Go.RowKit Go.Ord
attribute [local irreducible] TW CW KW DW
variable {w:World} {d:Dist} {n:Nat}
theorem vwithin_c {x a b:Int}:Gives Tryz.prog 94 #[.int .i64 x,.int .i64 a,.int .i64 b] w fun u w'=>w'=w∧u= .bool (decide (a≤x∧x≤b)):=by
 refine gv (f:=94) ?_
 refine rnT ?_
 refine rt1 rfl ⟨rfl,by simp⟩
theorem shortest_c {v:Value} (hd:SD w v d) (hrows: ∀(i:Nat) (r:List Int),d[i]?=some r→RowOK d i r):Gives Tryz.prog 162 #[v] w fun u w'=>Below w.heap.size w w'∧u= .bool (dec (∀a b c,a<d.length→b<d.length→c<d.length→Tri d a b c)):=by
 obtain ⟨A,cap,rfl,hcap⟩:=hd.form
 have hmax:d.length≤9223372036854775807:=hd.len.2.2
 have hall: ∀i,i<d.length→ ∃r,d[i]?=some r∧r.length=d.length:=fun i hi=>⟨d[i],List.getElem?_eq_getElem hi,(hrows i _ (List.getElem?_eq_getElem hi)).len⟩
 refine gv (f:=162) ?_
 refine rnT ?_
 refine CW.lp [0,7] (fun i:Nat=> [(8,none,.int .i64 (i:Int))])
  (fun i W'=>i≤d.length∧Below w.heap.size w W'∧ ∀a b c,a<i→b<d.length→c<d.length→Tri d a b c) (fun i=>d.length-i) 0 ⟨by omega,Below.refl _ _,fun a b c ha=>by omega⟩ ?_
 rintro i W' ⟨hi,hB1,htri⟩
 refine rnT ?_
 refine CW.condP rfl (fun hlt1=> ?_) (fun hge1=> ?_)
 ·have hil:i<d.length:=by omega
  obtain ⟨ad,rfl⟩:=hd.addr (by omega)
  refine rnT ?_
  refine CW.pk [0,3,7,8,12,13] rfl ?_
  refine CW.lp [0,3,7,8,12] (fun k:Nat=> [(13,none,.int .i64 (k:Int))])
   (fun k W2=>k≤d.length∧Below w.heap.size w W2∧ ∀b c,b<k→c<d.length→Tri d i b c) (fun k=>d.length-k) 0 ⟨by omega,hB1,fun b c hb=>by omega⟩ ?_
  rintro k W2 ⟨hk2,hB2,htri2⟩
  refine rnT ?_
  refine CW.condP rfl (fun hlt2=> ?_) (fun hge2=> ?_)
  ·have hkl:k<d.length:=by omega
   refine rnT ?_
   refine CW.lp [0,3,4,7,8,12,13,17] (fun j:Nat=> [(18,none,.int .i64 (j:Int))])
    (fun j W3=>j≤d.length∧Below w.heap.size w W3∧ ∀c,c<j→Tri d i k c) (fun j=>d.length-j) 0 ⟨by omega,hB2,fun c hc=>by omega⟩ ?_
   rintro j W3 ⟨hj3,hB3,htri3⟩
   refine rnT ?_
   refine CW.condP rfl (fun hlt3=> ?_) (fun hge3=> ?_)
   ·have hjl:j<d.length:=by omega
    have hdW:=sd_step hd hB3
    obtain ⟨r,hr,hrl⟩:=hall i hil
    obtain ⟨rv,hcell,hrow⟩:=hdW.row hr
    obtain ⟨B,rcap,rfl,_⟩:=hrow.form
    obtain ⟨bd,rfl⟩:=hrow.addr (by omega)
    obtain ⟨x,hx⟩: ∃x,r[k]?=some x:=⟨r[k]'(by omega),List.getElem?_eq_getElem (by omega)⟩
    have hxa:=at2_eq hr hx
    obtain ⟨r2,hr2,hr2l⟩:=hall k hkl
    obtain ⟨rv2,hcell2,hrow2⟩:=hdW.row hr2
    obtain ⟨B2,rcap2,rfl,_⟩:=hrow2.form
    obtain ⟨bd2,rfl⟩:=hrow2.addr (by omega)
    have hxr:=(hrows i r hr).rng k x hx
    obtain ⟨y,hy⟩: ∃y,r2[j]?=some y:=⟨r2[j]'(by omega),List.getElem?_eq_getElem (by omega)⟩
    obtain ⟨z,hz⟩: ∃z,r[j]?=some z:=⟨r[j]'(by omega),List.getElem?_eq_getElem (by omega)⟩
    have hya:=at2_eq hr2 hy
    have hza:=at2_eq hr hz
    have hyr:=(hrows k r2 hr2).rng j y hy
    have hzr:=(hrows i r hr).rng j z hz
    refine rnT ?_
    refine TW.ld rfl hcell ?_
    refine rnT ?_
    refine TW.ld rfl (hrow.getI hx) ?_
    refine rnT ?_
    refine TW.ld rfl hcell2 ?_
    refine rnT ?_
    refine TW.ld rfl (hrow2.getI hy) ?_
    refine rnT ?_
    refine CW.pk [0,3,4,5,7,8,12,13,17,18,38] rfl ?_
    refine CW.cond rfl (fun hskip=> ?_) (fun hgo=> ?_)
    ·refine rnT ?_
     refine KW.rd (j+1) ⟨by omega,hB3,fun c hc=> ?_⟩
     rcases Nat.lt_or_ge c j with h|h
     ·exact htri3 c h
     ·obtain rfl:c=j:=by omega
      intro q1 q2
      rw [hxa] at q1
      rw [hya] at q2
      simp at hskip
      omega
    have hgo':0≤x∧0≤y:=by simp at hgo; omega
    refine rnT ?_
    refine CW.draw mixed (by kernel_rfl) ?_
    refine rnD ?_
    refine DW.ld rfl hcell ?_
    refine rnD ?_
    refine DW.ld rfl (hrow.getI hz) ?_
    refine rnD ?_
    refine DW.ld rfl hcell ?_
    refine rnD ?_
    refine DW.ld rfl (hrow.getI hz) ?_
    refine rnD ?_
    refine DW.ld rfl hcell ?_
    refine rnD ?_
    refine DW.ld rfl (hrow.getI hx) ?_
    refine rnD ?_
    refine DW.ld rfl hcell2 ?_
    refine rnD ?_
    refine DW.ld rfl (hrow2.getI hy) ?_
    refine rnD ?_
    refine DW.fi [0,3,4,5,7,8,12,13,17,18,71] rfl fun w9 b9=> ?_
    refine KW.then_ ?_
    refine CW.cond rfl (fun hbad=> ?_) (fun hgood=> ?_)
    ·refine rnT ?_
     refine rt1 rfl ⟨hB3.step b9,?_⟩
     rw [dec_neg]
     intro h
     have ht:=h i k j hil hkl hjl (by rw [hxa]; omega) (by rw [hya]; omega)
     rw [hxa,hya,hza] at ht
     simp at hbad
     omega
    ·refine rnT ?_
     refine KW.rd (j+1) ⟨by omega,hB3.step b9,fun c hc=> ?_⟩
     rcases Nat.lt_or_ge c j with h|h
     ·exact htri3 c h
     ·obtain rfl:c=j:=by omega
      intro q1 q2
      rw [hxa,hya,hza]
      simp at hgood
      omega
   ·refine rnT ?_
    refine KW.rd (k+1) ⟨by omega,hB3,fun b c hb hc=> ?_⟩
    rcases Nat.lt_or_ge b k with h|h
    ·exact htri2 b c h hc
    ·obtain rfl:b=k:=by omega
     exact htri3 c (by omega)
  ·refine rnT ?_
   refine KW.rd (i+1) ⟨by omega,hB2,fun a b c ha hb hc=> ?_⟩
   rcases Nat.lt_or_ge a i with h|h
   ·exact htri a b c h hb hc
   ·obtain rfl:a=i:=by omega
    exact htri2 b c (by omega) hc
 ·refine rnT ?_
  refine rt1 rfl ⟨hB1,by rw [dec_pos (fun a b c ha hb hc=>htri a b c (by omega) hb hc)]⟩
theorem vdistances_c {v:Value} (hd:SD w v d):Gives Tryz.prog 93 #[v] w fun u w'=>Below w.heap.size w w'∧u= .bool (dec (WfD d)):=by
 obtain ⟨A,cap,rfl,hcap⟩:=hd.form
 have hmax:d.length≤9223372036854775807:=hd.len.2.2
 refine gv (f:=93) ?_
 refine rnT ?_
 refine CW.condP rfl (fun hbig=> ?_) (fun hsmall=> ?_)
 ·refine rnT ?_
  refine rt1 rfl ⟨Below.refl _ _,by rw [dec_neg (fun h=>by have:=h.few; omega)]⟩
 have h12:d.length≤12:=by omega
 refine rnT ?_
 refine CW.lp [0,10,11] (fun k:Nat=> [(12,none,.int .i64 (k:Int))])
  (fun k W=>k≤d.length∧W=w∧ ∀(i:Nat) (r:List Int),i<k→d[i]?=some r→RowOK d i r) (fun k=>d.length-k) 0 ⟨by omega,rfl,fun i r hi=>by omega⟩ ?_
 rintro k W ⟨hk,rfl,hrows⟩
 refine rnT ?_
 refine CW.condP rfl (fun hlt=> ?_) (fun hge=> ?_)
 ·have hkl:k<d.length:=by omega
  obtain ⟨r,hr⟩: ∃r,d[k]?=some r:=⟨d[k],List.getElem?_eq_getElem hkl⟩
  obtain ⟨ad,rfl⟩:=hd.addr (by omega)
  obtain ⟨rv,hcell,hrow⟩:=hd.row hr
  obtain ⟨B,rcap,rfl,_⟩:=hrow.form
  have hrmax:=hrow.len.2.2
  refine rnT ?_
  refine TW.ld rfl hcell ?_
  refine rnT ?_
  refine CW.pk [0,3,4,10,11,12,21] rfl ?_
  refine CW.condP rfl (fun hlen=> ?_) (fun hlen=> ?_)
  ·refine rnT ?_
   refine rt1 rfl ⟨Below.refl _ _,by rw [dec_neg (fun h=>by have:=(h.rowOK hr).len; omega)]⟩
  have hle:r.length=d.length:=by omega
  refine rnT ?_
  refine CW.lp [0,3,10,11,12,22,23] (fun j:Nat=> [(24,none,.int .i64 (j:Int))])
   (fun j W'=>j≤r.length∧W'=W∧(∀(i:Nat) (y:Int),i<j→r[i]?=some y→ -1≤y∧y≤1000000)∧(k<j→r[k]?=some 0)) (fun j=>r.length-j) 0 ⟨by omega,rfl,fun i y hi=>by omega,fun h=>by omega⟩ ?_
  rintro j W' ⟨hj,rfl,hrng,hdg⟩
  refine rnT ?_
  refine CW.condP rfl (fun hlt2=> ?_) (fun hge2=> ?_)
  ·have hjl:j<r.length:=by omega
   obtain ⟨y,hy⟩: ∃y,r[j]?=some y:=⟨r[j],List.getElem?_eq_getElem hjl⟩
   obtain ⟨bd,rfl⟩:=hrow.addr (by omega)
   refine rnT ?_
   refine TW.ld rfl (hrow.getI hy) ?_
   refine rnT ?_
   refine TW.cl rfl (vwithin_c) ?_
   rintro u w2 ⟨rfl,rfl⟩
   refine rnT ?_
   refine CW.pk [0,3,5,6,10,11,12,22,23,24,40] rfl ?_
   refine CW.cond rfl (fun hbad=> ?_) (fun hgood=> ?_)
   ·refine rnT ?_
    refine rt1 rfl ⟨Below.refl _ _,?_⟩
    rw [dec_neg]
    intro h
    have h1:=(h.rowOK hr).rng j y hy
    have h2:=(h.rowOK hr).diag
    simp at hbad
    by_cases e:k=j
    ·subst e
     rw [hy] at h2
     simp at h2
     omega
    ·omega
   ·refine rnT ?_
    have hg:(-1≤y∧y≤1000000)∧(k=j→y=0):=by
     simp at hgood
     omega
    refine KW.rd (j+1) ⟨by omega,rfl,fun i z hi hz=> ?_,fun hkj=> ?_⟩
    ·rcases Nat.lt_or_ge i j with h|h
     ·exact hrng i z h hz
     ·obtain rfl:i=j:=by omega
      rw [hy] at hz; cases hz
      exact hg.1
    ·rcases Nat.lt_or_ge k j with h|h
     ·exact hdg h
     ·obtain rfl:k=j:=by omega
      rw [hy,hg.2 rfl]
  ·refine rnT ?_
   refine KW.rd (k+1) ⟨by omega,rfl,fun i r' hi hr'=> ?_⟩
   rcases Nat.lt_or_ge i k with h|h
   ·exact hrows i r' h hr'
   ·obtain rfl:i=k:=by omega
    rw [hr] at hr'; cases hr'
    exact ⟨hle,hdg (by omega),fun j y hy=>hrng j y (by have:=(List.getElem?_eq_some_iff.1 hy).1; omega) hy⟩
 ·have hrows': ∀(i:Nat) (r:List Int),d[i]?=some r→RowOK d i r:=fun i r hr=>hrows i r (by have:=(List.getElem?_eq_some_iff.1 hr).1; omega) hr
  refine rnT ?_
  refine TW.cl rfl (shortest_c hd hrows') ?_
  rintro y w2 ⟨b2,rfl⟩
  refine rnT ?_
  refine rt1 rfl ⟨b2,?_⟩
  by_cases h: ∀a b c,a<d.length→b<d.length→c<d.length→Tri d a b c
  ·rw [dec_pos h,dec_pos (wfd_of h12 hrows' h)]
  ·rw [dec_neg h,dec_neg fun hw=>h fun a b c ha hb hc=>hw.tri a b c ha hb hc]
theorem vfitting_c {dv lv:Value} {l:List Ev} {W:Option Addr} {nw wc:Nat} (hd:SD w dv d) (hl:SE w lv l) (hnw:nw≤9223372036854775807):Gives Tryz.prog 37 #[dv,lv,.slice W nw wc] w fun x w'=>Below w.heap.size w w'∧x= .bool (dec (FitW d l nw)):=by
 obtain ⟨A,cap,rfl,_⟩:=hd.form
 obtain ⟨B,bcap,rfl,_⟩:=hl.form
 have hmax:=hl.len.2.2
 have hdm:=hd.len.2.2
 refine gv (f:=37) ?_
 refine rnT ?_
 refine TW.callF (cap:= []) rfl rfl en93 rfl ct (Args.cons rfl id Args.nil) (fun _=>vdistances_c hd) ?_
 rintro w1 b1
 refine rnT ?_
 refine CW.pk [0,1,2,6,21] rfl ?_
 refine CW.cond rfl (fun hbad=> ?_) (fun hgood=> ?_)
 ·refine rnT ?_
  refine rt1 rfl ⟨b1,?_⟩
  rw [dec_neg fun h=> ?_]
  rw [dec_pos h.wd] at hbad
  have:=h.few
  have:=h.worlds
  simp at hbad
  omega
 have hg:l.length≤14∧nw≤400∧WfD d:=by
  cases hq:dec (WfD d) with
  | false=>rw [hq] at hgood; simp at hgood
  | true =>
   rw [hq] at hgood
   simp at hgood
   exact ⟨by omega,by omega,dec_iff.1 hq⟩
 refine rnT ?_
 refine CW.lp [0,22,23] (fun k:Nat=> [(24,none,.int .i64 (k:Int))])
  (fun k W2=>k≤l.length∧Below w1.heap.size w1 W2∧ ∀e∈l.take k,EOK d e) (fun k=>l.length-k) 0 ⟨by omega,Below.refl _ _,by simp⟩ ?_
 rintro k W2 ⟨hk,hB,heach⟩
 have hb:=b1.step hB
 refine rnT ?_
 refine CW.condP rfl (fun hlt=> ?_) (fun hge=> ?_)
 ·obtain ⟨e,he,hem⟩:=getx (l:=l) (k:=k) (by omega)
  have hl3:=se_step hl hb
  obtain ⟨ad,rfl⟩:=hl3.addr (by omega)
  obtain ⟨nv,hcells,i1,i2,i3,hneeds⟩:=SE.get hl3 he
  obtain ⟨C,ncap,rfl,_⟩:=hneeds.form
  refine rnT ?_
  refine TW.ldS rfl (hcells) ?_
  refine TW.newVar rfl zc60 rfl sz60 rfl rfl ?_
  rintro g4 w4 f4
  refine rnT ?_
  refine TW.ld rfl (f4.blk.fld rfl) ?_
  refine rnT ?_
  refine TW.cl rfl (vwithin_c) ?_
  rintro u w5 ⟨rfl,rfl⟩
  refine rnT ?_
  refine CW.pk [0,8,22,23,24,34] rfl ?_
  refine CW.cond rfl (fun hbad2=> ?_) (fun hgood2=> ?_)
  ·refine rnT ?_
   refine rt1 rfl ⟨hb.step f4.below,?_⟩
   rw [dec_neg fun h=> ?_]
   have h1:=h.each e hem
   have:=h1.o1
   have:=h1.o2
   simp at hbad2
   omega
  ·refine rnT ?_
   refine KW.rd (k+1) ⟨by omega,hB.step f4.below,fun e' he'=> ?_⟩
   rw [List.take_add_one,he] at he'
   rcases List.mem_append.1 he' with he'|he'
   ·exact heach e' he'
   ·simp at he'
    subst he'
    simp at hgood2
    exact ⟨by omega,by omega⟩
 ·refine rnT ?_
  refine rt1 rfl ⟨hb,?_⟩
  rw [List.take_of_length_le (by omega)] at heach
  rw [dec_pos ⟨hg.1,hg.2.1,hg.2.2,heach⟩]
theorem OFs.get {F:Nat→Prop} {ad:Addr} {cap:Nat} {l:List Of} (h:SL ofT F w (.slice (some ad) n cap) l) {i:Nat} {o:Of} (hx:l[i]?=some o) :
  ∃ v,∀j u,(ofV o v)[j]?=some u→w.cell? ((ad.add ((i:Int).toNat*7)).add j)=some u:=by
 obtain ⟨ad',cs,h1,_,⟨v,rfl,_⟩,hc⟩:=h.at hx
 cases h1
 exact ⟨v,hc⟩
theorem LIs.get {F:Nat→Prop} {ad:Addr} {cap:Nat} {l:List Li} (h:SL liT F w (.slice (some ad) n cap) l) {i:Nat} {o:Li} (hx:l[i]?=some o) :
  ∀ j u,(liV o)[j]?=some u→w.cell? ((ad.add ((i:Int).toNat*6)).add j)=some u:=by
 obtain ⟨ad',cs,h1,_,⟨rfl,_⟩,hc⟩:=h.at hx
 cases h1
 exact hc
def clV (c:Cl):List Value:= [.string c.label,.int .i64 c.fr,.int .i64 c.to,.int .i64 c.cls,.int .i64 c.acc,.int .i64 c.due,.int .i64 c.amt]
structure ClI (c:Cl):Prop where
 f:I64 c.fr
 t:I64 c.to
 k:I64 c.cls
 a:I64 c.acc
 d:I64 c.due
 m:I64 c.amt
theorem vwithinB_c {x a b:Int}:Gives Tryz.prog 94 #[.int .i64 x,.int .i64 a,.int .i64 b] w fun u w'=>Below w.heap.size w w'∧u= .bool (decide (a≤x∧x≤b)):=vwithin_c.mono fun _ _ ⟨h1,h2⟩=>⟨h1 ▸ Below.refl _ _,h2⟩
theorem vwell_c {v:NV} {N:Net} {c:Cl} (hN:NetAt w v N):Gives Tryz.prog 38 #[.agg v.cells.toArray,.agg (clV c).toArray] w fun u w'=>Below w.heap.size w w'∧u= .bool (dec (ClOK N c)):=by
 have hform:=NetIn.form hN
 obtain ⟨vc,vn,vo,vf,vl,vk⟩:=v
 obtain ⟨⟨A1,c1,e1⟩,⟨A2,c2,e2⟩,⟨A3,c3,e3⟩,⟨A4,c4,e4⟩,⟨A5,c5,e5⟩,⟨A6,c6,e6⟩⟩:=id hform
 dsimp only at e1 e2 e3 e4 e5 e6
 subst e1 e2 e3 e4 e5 e6
 have hmax:=hN.f.len.2.2
 have hmax5:=hN.l.len.2.2
 refine gv (f:=38) ?_
 refine rnT ?_
 refine TW.box rfl rfl rfl rfl ?_
 rintro g2 w1 f1
 refine TW.box rfl rfl rfl rfl ?_
 rintro g3 w2 f2
 refine rnT ?_
 have b2:=f1.below.step f2.below
 have hN2:=f1.blk.next f2.below
 have hC2:=f2.blk
 refine TW.ld rfl (hC2.fld (j:=1) rfl) ?_
 refine rnT ?_
 refine TW.ld rfl (hN2.fld (j:=3) rfl) ?_
 refine rnT ?_
 refine TW.cl rfl (vwithinB_c) ?_
 rintro y w3 ⟨b3,rfl⟩
 refine rnT ?_
 refine TW.ld rfl ((hC2.next b3).fld (j:=2) rfl) ?_
 refine rnT ?_
 refine TW.ld rfl ((hN2.next b3).fld (j:=3) rfl) ?_
 refine rnT ?_
 refine TW.callF (cap:= []) rfl rfl en94 rfl ct (Args.cons rfl id (Args.cons rfl ct (Args.cons rfl id Args.nil))) (fun _=>vwithinB_c) ?_
 rintro w4 b4
 refine rnT ?_
 have b24:=b3.step b4
 refine TW.ld rfl ((hC2.next b24).fld (j:=4) rfl) ?_
 refine TW.callF (cap:= []) rfl rfl en94 rfl ct (Args.cons rfl id (Args.cons rfl ct (Args.cons rfl ct Args.nil))) (fun _=>vwithinB_c) ?_
 rintro w5 b5
 refine rnT ?_
 have b25:=b24.step b5
 refine TW.ld rfl ((hC2.next b25).fld (j:=5) rfl) ?_
 refine rnT ?_
 refine TW.ld rfl ((hC2.next b25).fld (j:=4) rfl) ?_
 refine TW.callF (cap:= []) rfl rfl en94 rfl ct (Args.cons rfl id (Args.cons rfl id (Args.cons rfl ct Args.nil))) (fun _=>vwithinB_c) ?_
 rintro w6 b6
 refine rnT ?_
 have b26:=b25.step b6
 refine TW.ld rfl ((hC2.next b26).fld (j:=6) rfl) ?_
 refine TW.callF (cap:= []) rfl rfl en94 rfl ct (Args.cons rfl id (Args.cons rfl ct (Args.cons rfl ct Args.nil))) (fun _=>vwithinB_c) ?_
 rintro w7 b7
 refine rnT ?_
 refine rt1 rfl ⟨b2.step (b26.step b7),?_⟩
 by_cases h:ClOK N c
 ·rw [dec_pos h]
  obtain ⟨h1,h2,h3,h4,h5,h6,h7,h8,h9⟩:=h
  simp
  omega
 ·rw [dec_neg h,Value.bool.injEq,Bool.eq_false_iff]
  intro hq
  simp only [Bool.and_eq_true,decide_eq_true_eq] at hq
  exact h ⟨by omega,by omega,by omega,by omega,by omega,by omega,by omega,by omega,by omega⟩
theorem isIndexL_c {i:Int} {A:Option Addr} {c:Nat}:Gives Tryz.prog 66 #[.int .i64 i,.slice A n c] w fun u w'=>Below w.heap.size w w'∧u= .bool (decide (0≤i∧i<(n:Int))):=by
 refine gv (f:=66) ?_
 refine rnT ?_
 refine rt1 rfl ⟨Below.refl _ _,?_⟩
 by_cases h1:0≤i<;>by_cases h2:i<(n:Int)<;>simp [h1,h2]
theorem owner_c {v:NV} {N:Net} {s:Spt} (ht:Tabs w) (hN:NetAt w v N):Gives Tryz.prog 24 #[.agg v.cells.toArray,.agg (spV s).toArray] w fun u w'=>Below w.heap.size w w'∧u= .int .i64 (ownS N s):=by
 have hform:=NetIn.form hN
 obtain ⟨vc,vn,vo,vf,vl,vk⟩:=v
 obtain ⟨⟨A1,c1,e1⟩,⟨A2,c2,e2⟩,⟨A3,c3,e3⟩,⟨A4,c4,e4⟩,⟨A5,c5,e5⟩,⟨A6,c6,e6⟩⟩:=id hform
 dsimp only at e1 e2 e3 e4 e5 e6
 subst e1 e2 e3 e4 e5 e6
 have hmax:=hN.f.len.2.2
 have hmax5:=hN.l.len.2.2
 refine gv (f:=24) ?_
 refine rnT ?_
 refine TW.box rfl rfl rfl rfl ?_
 rintro g2 w1 f1
 refine TW.box rfl rfl rfl rfl ?_
 rintro g3 w2 f2
 refine rnT ?_
 have b2:=f1.below.step f2.below
 have hV2:=f1.blk.next f2.below
 have hC2:=f2.blk
 have hN2:=net_step hN b2
 refine TW.ldS rfl (fun _ _ hv=>hV2.fld hv) ?_
 refine TW.cl rfl (incon_c (v:=⟨.slice A1 N.cals.length c1,.slice A2 N.names.length c2,.slice A3 N.ops.length c3,.slice A4 N.offs.length c4,.slice A5 N.lines.length c5,.slice A6 N.classes.length c6⟩) (ht.below b2) hN2) ?_
 rintro y3 w3 ⟨d3,n,hR,hn,hiff⟩
 obtain ⟨Y,yc,rfl⟩:=FRow.form hR
 have b3:=b2.step d3
 have hV3:=hV2.next d3
 have hC3:=hC2.next d3
 have hN3:=net_step hN2 d3
 refine rnT ?_
 refine CW.condP rfl (fun hbad=> ?_) (fun hgood=> ?_)
 ·refine rnT ?_
  refine rt1 rfl ⟨b3,?_⟩
  unfold ownS
  rw [dec_neg fun h=>by have:=hiff.2 h; omega]
  rfl
 have hc:ConsOK keys11 N:=hiff.1 (by omega)
 have hown:ownS N s=if s.2= -1∧0≤s.1∧s.1<N.offs.length then (N.offs[s.1.toNat]?.map (·.op)).getD 0
   else if s.1= -1∧0≤s.2∧s.2<N.lines.length then ((N.lines[s.2.toNat]?.bind fun l=>N.offs[l.frm.toNat]?).map (·.op)).getD 0 else -1:=by
  unfold ownS
  rw [dec_pos hc,if_neg (by simp)]
 rw [hown]
 refine rnT ?_
 refine TW.ld rfl (hC3.fld (j:=1) rfl) ?_
 refine rnT ?_
 refine TW.ld rfl (hC3.fld (j:=0) rfl) ?_
 refine rnT ?_
 refine TW.ld rfl (hV3.fld (j:=3) rfl) ?_
 refine TW.callF (cap:= []) rfl rfl en65 rfl ct (Args.cons rfl id (Args.cons rfl id Args.nil)) (fun _=>isIndexF_c) ?_
 rintro w4 b4
 refine rnT ?_
 refine CW.pk [0,1,2,3,4,9] rfl ?_
 have hV4:=hV3.next b4
 have hC4:=hC3.next b4
 have hN4:=net_step hN3 b4
 refine CW.cond rfl (fun h1=> ?_) (fun h2=> ?_)
 ·have h1':s.2= -1∧0≤s.1∧s.1<N.offs.length:=by simp at h1; omega
  rw [if_pos h1']
  obtain ⟨o,ho,hom⟩:=getx (l:=N.offs) (k:=s.1.toNat) (by omega)
  have hf:=hN4.f
  obtain ⟨ad,rfl⟩: ∃ad,A4=some ad:=hf.addr (by omega)
  obtain ⟨ov,hcells⟩:=OFs.get hf ho
  rw [show ((s.1.toNat:Nat):Int)=s.1 by omega] at hcells
  refine rnT ?_
  refine TW.ld rfl (hV4.fld (j:=3) rfl) ?_
  refine rnT ?_
  refine TW.ld rfl (hC4.fld (j:=0) rfl) ?_
  refine rnT ?_
  refine TW.ld rfl (hcells 1 _ rfl) ?_
  refine rnT ?_
  refine rt1 rfl ⟨b3.step b4,by rw [ho]; rfl⟩
 ·have h2': ¬(s.2= -1∧0≤s.1∧s.1<N.offs.length):=by simp at h2; omega
  rw [if_neg h2']
  refine rnT ?_
  refine TW.ld rfl (hC4.fld (j:=0) rfl) ?_
  refine rnT ?_
  refine TW.ld rfl (hC4.fld (j:=1) rfl) ?_
  refine rnT ?_
  refine TW.ld rfl (hV4.fld (j:=4) rfl) ?_
  refine TW.callF (cap:= []) rfl rfl en66 rfl ct (Args.cons rfl id (Args.cons rfl id Args.nil)) (fun _=>isIndexL_c) ?_
  rintro w5 b5
  refine rnT ?_
  refine CW.pk [0,1,2,3,4,27] rfl ?_
  have hV5:=hV4.next b5
  have hC5:=hC4.next b5
  have hN5:=net_step hN4 b5
  refine CW.cond rfl (fun h3=> ?_) (fun h4=> ?_)
  ·have h3':s.1= -1∧0≤s.2∧s.2<N.lines.length:=by simp at h3; omega
   rw [if_pos h3']
   obtain ⟨l,hl,hlm⟩:=getx (l:=N.lines) (k:=s.2.toNat) (by omega)
   have hg:=hc.lines.good l hlm
   have g1:=hg.f1
   have g2:=hg.f2
   obtain ⟨o,ho,hom⟩:=getx (l:=N.offs) (k:=l.frm.toNat) (by omega)
   have hf:=hN5.f
   have hll:=hN5.l
   obtain ⟨ad,rfl⟩: ∃ad,A4=some ad:=hf.addr (by omega)
   obtain ⟨ae,rfl⟩: ∃ae,A5=some ae:=hll.addr (by omega)
   obtain ⟨ov,hcells⟩:=OFs.get hf ho
   have hlc:=LIs.get hll hl
   rw [show ((s.2.toNat:Nat):Int)=s.2 by omega] at hlc
   rw [show ((l.frm.toNat:Nat):Int)=l.frm by omega] at hcells
   refine CW.seq ?_
   refine CW.draw mixed (by kernel_rfl) ?_
   refine rnD ?_
   refine DW.ld rfl (hV5.fld (j:=3) rfl) ?_
   refine rnD ?_
   refine DW.ld rfl (hV5.fld (j:=4) rfl) ?_
   refine rnD ?_
   refine DW.ld rfl (hC5.fld (j:=1) rfl) ?_
   refine rnD ?_
   refine DW.ld rfl (hlc 1 _ rfl) ?_
   refine rnD ?_
   refine DW.ld rfl (hcells 1 _ rfl) ?_
   refine rnD ?_
   refine DW.fi [0,1,2,3,4] rfl fun w6 b6=> ?_
   refine rnT ?_
   refine rt1 rfl ⟨(b3.step b4).step (b5.step b6),?_⟩
   rw [hl]
   dsimp only [Option.bind_some]
   rw [ho]
   rfl
  ·have h4': ¬(s.1= -1∧0≤s.2∧s.2<N.lines.length):=by simp at h4; omega
   rw [if_neg h4']
   refine rnT ?_
   refine rt1 rfl ⟨(b3.step b4).step b5,rfl⟩
end Go.Proofs.YtobaafdejnimkaaGreatDoor
namespace Go.Ord
def othR (r:Nat):Bool:=decide ((r<65∨90<r)∧(r<48∨57<r)∧r≠46)
theorem othR_iff {r:Nat}:othR r=false↔okB r:=by
 unfold othR okB
 rw [decide_eq_false_iff_not]
 omega
theorem get_byteAt {s:ByteArray} {i:Nat} (h:i<s.size):(s.get! i).toNat=byteAt s i:=by
 unfold byteAt ByteArray.get!
 have h':i<s.data.size:=h
 simp only [Array.getD]
 rw [dif_pos h',getElem!_pos s.data i h']
 rfl
theorem decode_low {s:ByteArray} {i:Nat} (h:byteAt s i<128) (hi:i<s.size):Utf8.decode s i=(byteAt s i,1):=by
 unfold Utf8.decode
 have:(s.get! (i+0)).toNat=byteAt s i:=get_byteAt hi
 simp only [this]
 rw [if_pos h]
theorem decode_high {s:ByteArray} {i:Nat} (h: ¬byteAt s i<128) (hi:i<s.size):128≤(Utf8.decode s i).1:=by
 unfold Utf8.decode
 have:(s.get! (i+0)).toNat=byteAt s i:=get_byteAt hi
 simp only [this]
 rw [if_neg h]
 split
 ·split
  ·rename_i h1 h2; simpa using h2
  ·show 128≤Utf8.runeError; decide
 ·split
  ·split
   ·rename_i h1 h2; simp at h2 ⊢; omega
   ·show 128≤Utf8.runeError; decide
  ·split
   ·split
    ·rename_i h1 h2; simp at h2 ⊢; omega
    ·show 128≤Utf8.runeError; decide
   ·show 128≤Utf8.runeError; decide
theorem idx_lab (s:ByteArray): ∀(f pos:Nat),s.size≤pos+f→(Lib.idxFuncFrom othR true s f pos= -1↔ ∀i,pos≤i→i<s.size→okB (byteAt s i))
 | 0,pos,h=>by
  unfold Lib.idxFuncFrom
  exact ⟨fun _ i h1 h2=>by omega,fun _=>rfl⟩
 | f+1,pos,h=>by
  unfold Lib.idxFuncFrom
  by_cases hp:pos<s.size
  ·rw [if_pos hp]
   by_cases hl:byteAt s pos<128
   ·rw [decode_low hl hp]
    dsimp only
    by_cases ho:othR (byteAt s pos)=true
    ·rw [if_pos ho]
     constructor
     ·intro h1; omega
     ·intro h1
      have:=othR_iff.2 (h1 pos (Nat.le_refl _) hp)
      rw [this] at ho
      cases ho
    ·rw [if_neg ho,idx_lab s f (pos+1) (by omega)]
     have hok:okB (byteAt s pos):=othR_iff.1 (by simpa using ho)
     constructor
     ·intro h1 i h2 h3
      by_cases e:i=pos
      ·subst e; exact hok
      ·exact h1 i (by omega) h3
     ·intro h1 i h2 h3
      exact h1 i (by omega) h3
   ·have hh:=decode_high hl hp
    have ho:othR (Utf8.decode s pos).1=true:=by
     unfold othR
     exact decide_eq_true (by omega)
    rw [if_pos ho]
    constructor
    ·intro h1; omega
    ·intro h1
     have:=h1 pos (Nat.le_refl _) hp
     unfold okB at this
     omega
  ·rw [if_neg hp]
   exact ⟨fun _ i h1 h2=>by omega,fun _=>rfl⟩
theorem lab_idx (s:ByteArray):decide (0≤Lib.idxFunc othR true s)= !Go.PF.dec (∀i,i<s.size→okB (byteAt s i)):=by
 have h:=idx_lab s s.size 0 (by omega)
 by_cases hq: ∀i,i<s.size→okB (byteAt s i)
 ·rw [Go.PF.dec_pos hq]
  unfold Lib.idxFunc
  rw [h.2 fun i _ hi=>hq i hi]
  rfl
 ·rw [Go.PF.dec_neg hq]
  have hne:Lib.idxFuncFrom othR true s s.size 0≠ -1:=fun e=>hq fun i hi=>h.1 e i (Nat.zero_le _) hi
  rcases Lib.idxFuncFrom_range othR true s s.size 0 with h1|h1
  ·exact absurd h1 hne
  ·unfold Lib.idxFunc
   rw [decide_eq_true (by omega)]
   rfl
end Go.Ord
namespace Go.PF
open Go.RowKit
section
variable {P:Program} {r:Option Nat} {Q:Exit→Act→World→Prop} {N:Nat} {ds:List Deferred} {ops rest:List Oper} {E:Env} {w:World} {G:Option Bool}
variable {d:Option Tmp} {ty:TypeId} {pos:String} {af:Array Edge} {gu:Option (Nat×Bool)} {ρ:Operand→Value}
theorem X.callB {f:Operand} {k:FuncId} {fst cap:List Value} {xs:List Operand} {vs:List Value} {ts:Array TypeId} (he:enters P k=true) (hf:ρ f= .func (.func k) fst.toArray cap.toArray) (hv:xs.map ρ=vs) :
  (execOp ρ ⟨d,.call ⟨.value f,xs.toArray,ts⟩,ty,pos,af,gu⟩).run P w= .ok (.enter k (fst++vs++cap).toArray) w:=by
 have h1:=run_enters (P:=P) he
 simp [execOp,resolve,hf,hv,Deferred.ofValue,Go.invoke,h1]
theorem TW.callB {f:Operand} {k:FuncId} {fst cap:List Value} {xs:List Operand} {vs:List Value} {ts:Array TypeId} {R:Value→World→Prop} (hg:gu=none) (hd:okDst N d=true) (he:enters P k=true)
  (hf:ev E f=some (none,.func (.func k) fst.toArray cap.toArray)) (hv:Args N ds E none xs vs) (hc:Gives P k (fst++vs++cap).toArray w R)
  (next: ∀v w',R v w'→TW P r Q N ds ops rest (ins E d none v) w'):TW P r Q N ds ops (⟨d,.call ⟨.value f,xs.toArray,ts⟩,ty,pos,af,gu⟩::rest) E w :=
 TW.enter0 hg hd rfl (fun a ha=>X.callB he (ha.eval hf trivial) (hv a ha trivial)) hc next
theorem X.makeFuncB {fn:Fn} {fst cap:List Operand} {us vs:List Value} (hu:fst.map ρ=us) (hv:cap.map ρ=vs):(execOp ρ ⟨d,.makeFunc fn fst.toArray cap.toArray,ty,pos,af,gu⟩).run P w= .ok (.value (.func fn us.toArray vs.toArray)) w:=by
 simp [execOp,Instr.makeFunc,hu,hv]
theorem TW.makeFuncB {fn:Fn} {fst cap:List Operand} {us vs:List Value} (hg:gd ops E gu=some G) (hd:okDst N d=true) (hu:Args N ds E G fst us) (hv:Args N ds E G cap vs)
  (next:TW P r Q N ds ops rest (ins E d G (.func fn us.toArray vs.toArray)) w):TW P r Q N ds ops (⟨d,.makeFunc fn fst.toArray cap.toArray,ty,pos,af,gu⟩::rest) E w :=
 TW.val hg hd rfl (fun hG a ha=>X.makeFuncB (hu a ha hG) (hv a ha hG)) next
theorem V.remT {m n:Int} {x y:Operand} {t t':TypeId} (hn:1≤n∧n≤9223372036854775807):Val P ⟨d,.binOp .rem t x y t',ty,pos,af,gu⟩ [x,y] [.int .i64 m,.int .i64 n] True (.int .i64 (m.tmod n)) :=
 ⟨rfl,by simp [Op.operands,Call.operands],fun _ ρ w h=>by
  obtain ⟨hx,hy⟩:=map2 h
  simp only [execOp]; rw [hx,hy,eqGuard_rem,binOp_rem]
  have h0:n≠0:=by omega
  have h1:=Int.lt_tmod_of_pos m (show 0<n by omega)
  have h2:=Int.tmod_lt_of_pos m (show 0<n by omega)
  simp [Op.intDiv,h0,wrap_fits (z:=m.tmod n) (by omega)]⟩
end
def Thk (P:Program) (fv:Value) (vs:List Value) (w:World) (R:Value→World→Prop):Prop:= ∃k fst cap,fv= .func (.func k) (List.toArray fst) (List.toArray cap)∧enters P k=true∧Gives P k (fst++vs++cap).toArray w R
end Go.PF
namespace Go.Proofs.YtobaafdejnimkaaGreatDoor
open Go.PF Go.RowKit Go.Ord
attribute [local irreducible] TW CW KW DW
variable {w:World} {s:ByteArray} {l:List Int} {i:Nat}
theorem remM {n:Int}:(n.tmod 2147483647<0→n.tmod 2147483647+2147483647=n%2147483647)∧(¬n.tmod 2147483647<0→n.tmod 2147483647=n%2147483647):=by
 have h1:=Int.emod_nonneg n (b:=2147483647) (by decide)
 have h2:=Int.emod_lt_of_pos n (b:=2147483647) (by decide)
 have h3:=Int.emod_add_mul_ediv n 2147483647
 have h4:=Int.tmod_add_mul_tdiv n 2147483647
 have h5: -2147483647<n.tmod 2147483647∧n.tmod 2147483647<2147483647:=⟨by
  have:=Int.lt_tmod_of_pos n (b:=2147483647) (by decide)
  omega,Int.tmod_lt_of_pos n (by decide)⟩
 constructor<;>intro h<;>omega
theorem sum_snoc {x:Int} (hx:l[i]?=some x):sumS (l.take (i+1))=stp (sumS (l.take i)) x:=by
 rw [List.take_add_one,hx]
 simp [sumS]
theorem sum_c {v:Value} {F:Nat→Prop} (h:SL intT F w v l):Gives Tryz.prog 213 #[v] w fun u w'=>w'=w∧u= .int .i64 (sumS l):=by
 obtain ⟨A,cap,rfl,_⟩:=h.form
 have hmax:=h.len.2.2
 refine gv (f:=213) ?_
 refine rnT ?_
 refine CW.lp [7,8] (fun i:Nat=> [(3,none,.int .i64 (sumS (l.take i))),(9,none,.int .i64 (i:Int))])
  (fun i W=>i≤l.length∧W=w) (fun i=>l.length-i) 0 ⟨Nat.zero_le _,rfl⟩ ?_
 rintro i W ⟨hi,rfl⟩
 refine rnT ?_
 refine CW.condP rfl (fun hlt=> ?_) (fun hge=> ?_)
 ·obtain ⟨x,hx,hxm⟩:=getx (l:=l) (k:=i) (by omega)
  obtain ⟨ad,rfl⟩:=h.addr (by omega)
  have hr:=sumS_rng (l.take i)
  have hm:= @remM x
  have hb1:=Int.emod_nonneg x (b:=2147483647) (by decide)
  have hb2:=Int.emod_lt_of_pos x (b:=2147483647) (by decide)
  refine rnT ?_
  refine TW.ld rfl (h.getI hx) ?_
  refine TW.v V.assign rfl ⟨ct,trivial⟩ (fun _=>trivial) ?_
  refine TW.nil (KW.pick [3,5,7,8,9] [(3,_,_),(5,_,_),(7,_,_),(8,_,_),(9,_,_)] rfl (KW.then_ ?_))
  refine CW.seq (CW.region ?_)
  refine TW.v V.move rfl ⟨ct,trivial⟩ (fun _=>trivial) ?_
  refine TW.v (V.remT (by decide)) rfl ⟨ct,ct,trivial⟩ (fun _=>trivial) ?_
  refine rnT ?_
  refine CW.condP rfl (fun hneg=> ?_) (fun hpos=> ?_)
  ·refine rnT ?_
   rw [hm.1 hneg]
   refine KW.rd (i+1) ⟨by omega,rfl⟩ (hp:= ?_)
   rw [sum_snoc hx]
   rfl
  ·refine rnT ?_
   rw [hm.2 hpos]
   refine KW.rd (i+1) ⟨by omega,rfl⟩ (hp:= ?_)
   rw [sum_snoc hx]
   rfl
 ·refine rnT ?_
  refine rt1 rfl ⟨rfl,?_⟩
  rw [List.take_of_length_le (by omega)]
theorem dsum_c {v:Value} {F:Nat→Prop} (h:SL intT F w v l):Gives Tryz.prog 140 #[v] w fun u w'=>w'=w∧u= .int .i64 (sumS l):=by
 refine gv (f:=140) ?_
 refine rnT ?_
 refine TW.cl rfl (sum_c h) ?_
 rintro y w1 ⟨rfl,rfl⟩
 refine rnT ?_
 refine rt1 rfl ⟨rfl,rfl⟩
theorem fill_next {α:Type} {l:List α} {n:Nat} {x z:α} (hx:l[i]?=some x) (hi:i<n):(l.take i++List.replicate (n-i) z).set i x=l.take (i+1)++List.replicate (n-(i+1)) z:=by
 have hl:=(List.getElem?_eq_some_iff.1 hx).1
 have e:n-i=(n-(i+1))+1:=by omega
 rw [List.set_append_right _ _ (by simp; omega),e,List.replicate_succ,List.take_add_one,hx]
 simp [Nat.min_eq_left (Nat.le_of_lt hl)]
theorem bytes_at (h:i<s.size):((bytesI s).map (Value.int .i64))[i]?=some (.int .i64 ((s.data.getD i 0).toNat:Int)):=by
 unfold bytesI
 rw [List.getElem?_map,List.getElem?_map,List.getElem?_range h]
 rfl
theorem bytes_i64: ∀x∈bytesI s,I64 x:=fun x hx=>by
 obtain ⟨i,_,rfl⟩:=List.mem_map.1 hx
 have:=(s.data.getD i 0).toNat_lt
 unfold byteAt
 exact ⟨by show (-9223372036854775808:Int)≤_; omega,by show _≤(9223372036854775807:Int); omega⟩
theorem bytes_len (s:ByteArray):(bytesI s).length=s.size:=by simp [bytesI]
theorem numb_c (hs:s.size≤1000000):Gives Tryz.prog 217 #[.string s] w fun u w'=>Below w.heap.size w w'∧SL intT (fun k=>w.heap.size≤k∧k<w'.heap.size) w' u (bytesI s):=by
 refine gv (f:=217) ?_
 refine rnT ?_
 refine TW.makeSlice rfl rfl (zero1_of go32 ze3 rfl) rfl rfl (by omega) (by omega) ?_
 rintro g w1 f1
 refine rnT ?_
 refine CW.pk [0,2,3,9,10] rfl ?_
 have hO1:OwnS w1 3 1 (.slice (some ⟨g,0,none⟩) s.size s.size) s.size ((List.replicate s.size (Value.int .i64 0))):=OwnS.of_blk f1.blk (by simp) (by omega)
 have hgs:=f1.at_
 refine CW.lp [0,3,9] (fun i:Nat=> [(10,none,.int .i64 (i:Int))])
  (fun i W=>i≤s.size∧But g w1 W∧w1.heap.size≤W.heap.size∧OwnS W 3 1 (.slice (some ⟨g,0,none⟩) s.size s.size) s.size (((bytesI s).map (Value.int .i64)).take i++List.replicate (s.size-i) (Value.int .i64 0))) (fun i=>s.size-i) 0 ⟨Nat.zero_le _,But.of_below (Below.refl _ _),Nat.le_refl _,by simpa using hO1⟩ ?_
 rintro i W ⟨hi,hB,hsz,hO⟩
 refine rnT ?_
 refine CW.condP rfl (fun hlt=> ?_) (fun hge=> ?_)
 ·have hib:i<s.size:=by omega
  have hbt:=(s.data.getD i 0).toNat_lt
  have e1:IntKind.i64.wrap ((s.data.getD i 0).toNat:Int)=((s.data.getD i 0).toNat:Int):=wrap_fits (by omega)
  refine rnT ?_
  refine TW.storeRow1 rfl sz3 rfl rfl hO (by simp [bytes_len]; omega) rfl ?_
  rintro w2 hO2 hb2 hs2
  refine rnT ?_
  refine KW.rd (i+1) ⟨by omega,hB.trans hb2,by omega,?_⟩
  rw [←fill_next (bytes_at hib) hib]
  simpa only [Nat.mul_one,Int.toNat_natCast,e1] using hO2
 ·refine rnT ?_
  have hie:i=s.size:=by omega
  subst hie
  have hb:=But.below f1.below hB (by omega)
  refine rt1 rfl ⟨hb,?_⟩
  rw [List.take_of_length_le (by simp [bytes_len]),Nat.sub_self,List.replicate_zero,List.append_nil,←bytes_len s] at hO
  rw [←bytes_len s]
  exact OwnS.toInts hO bytes_i64 (fun q hq=>⟨by simp [Value.ownBlock] at hq; omega,hO.lt hq⟩) (by rw [bytes_len]; omega)
theorem label_c (hs:s.size≤1000000):Gives Tryz.prog 214 #[.string s] w fun u w'=>Below w.heap.size w w'∧u= .int .i64 (labS s):=by
 refine gv (f:=214) ?_
 refine rnT ?_
 refine TW.cl rfl (numb_c hs) ?_
 rintro y w1 ⟨b1,h1⟩
 refine TW.cl rfl (sum_c h1) ?_
 rintro y w2 ⟨rfl,rfl⟩
 refine rnT ?_
 refine rt1 rfl ⟨b1,rfl⟩
end Go.Proofs.YtobaafdejnimkaaGreatDoor
