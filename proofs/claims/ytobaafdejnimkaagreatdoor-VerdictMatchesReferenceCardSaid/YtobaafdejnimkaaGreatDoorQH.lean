/- Texts of this claim,joined. -/
import Derived.Test.YtobaafdejnimkaaGreatDoorQG
import Derived.KernelRfl
import Derived.Shelf.Strings.FuncGrows
set_option linter.unusedSimpArgs false
set_option linter.unusedVariables false
set_option maxRecDepth 100000
set_option maxHeartbeats 4000000
namespace Go.Proofs.YtobaafdejnimkaaGreatDoor
open Tryz
open Go.PF Go.RowKit Go.Ord
attribute [local irreducible] TW CW KW DW
variable {N:Net} {w w0 W:World} {v:NV} {n i g:Nat} {r:List Int}
theorem za (hN:dI w v N) (hf:FewN N):Gives prog 163 #[.agg v.cells.toArray] w fun u w'=>Below w.heap.size w w'/\ ∃n,FRow w' w.heap.size u n/\n<=1000/\(n=0↔ConsOK keys11 N):=by
 have hform:=NetIn.form hN;obtain ⟨vc,vn,vo,vf,vl,vk⟩:=v;obtain ⟨⟨A1,c1,e1⟩,⟨A2,c2,e2⟩,⟨A3,c3,e3⟩,⟨A4,c4,e4⟩,⟨A5,c5,e5⟩,⟨A6,c6,e6⟩⟩:=id hform;dsimp only at e1 e2 e3 e4 e5 e6;subst e1 e2 e3 e4 e5 e6;have qc:=hf.c;have qn:=hf.n;refine gv (f:=163) ?_;refine ag ?_;refine aG rfl rfl rfl rfl ?_;rintro g1 w1 f1;refine ag ?_;have hB1:=f1.blk;have hN1:=aL hN f1.below;have hb01:=f1.below.size;refine aj rfl (hB1.fld rfl) ?_;refine ag ?_;refine aj rfl (hB1.fld rfl) ?_;refine ag ?_;refine zN (fun z:Value×Nat=> [(1,none,.pointer (some ⟨g1,0,none⟩)),(3,none,z.1)])
  (fun z W'=>Below w1.heap.size w1 W'/\FRow W' w1.heap.size z.1 z.2/\z.2<=1/\(z.2=0↔N.names.length=N.cals.length)) (fun hj=> ?_) (fun z W2 hJ=> ?_)
 ·skip
  refine ai rfl (fun hne=> ?_) (fun heq=> ?_)
  ·refine ag ?_;refine aH [0,1,2] _ [.int .i64 1,.int .i64 (-1),.int .i64 1] rfl rfl rfl (aa rfl ct (aa rfl ct (aa rfl ct ah))) (by kernel_rfl) ?_;refine ak 167 _ rfl rfl rfl om (aa rfl ct ah) rfl rfl rfl rfl rfl ?_;rintro g2 w2 f2;refine aK [.int .i64 1,.int .i64 (-1),.int .i64 1] rfl rfl kV rfl (OwnS.nil _ _ _) rfl rfl (fun j u hj=>⟨_,rfl,f2.blk.fld hj⟩) (fun u hu=>by simp at hu; rcases hu with rfl|rfl|rfl<;>rfl) (by omega) (by omega) ?_;rintro fv' w3 hO3 hg3 hn3;refine aT df rfl ⟨ct,trivial⟩ (fun _=>trivial) ?_;refine bG (aS [0,1,2,3] [(0,_,_),(1,_,_),(2,_,_),(3,_,_)] rfl (aD ?_));exact qx [1,3] _ rfl (hj (fv',1) _ ⟨f2.below.grown hg3 f2.below.size (fun q hq=>by simp [Value.ownBlock] at hq),FRow.app (w:=w2) (fun g hg=>by simp [Value.ownBlock] at hg) (fun u hu=>by cases hu) (fun u hu=>by simp at hu; rcases hu with rfl|rfl|rfl<;>rfl) hO3 hn3 f2.below.size,ZC,⟨fun h=>absurd h (Nat.succ_ne_zero 0),fun h=>by omega⟩⟩)
  ·refine fQ (aD ?_);exact qx [1,3] _ rfl (hj (.slice none 0 0,0) _ ⟨ZA,FRow.nil _ _,ZB,⟨fun _=>by omega,fun _=>rfl⟩⟩)
 obtain ⟨fv,n⟩:=z;obtain ⟨b2,hFR,hn1,hiff⟩:=hJ;dsimp only at hFR hn1 hiff;refine ag ?_;refine aI [1,3,4] rfl ?_;refine aJ [1] (fun z:Nat×Value×Nat=> [(3,none,z.2.1),(4,none,.int .i64 (z.1:Int))])
  (fun z W=>1<=z.1/\z.1<=6/\Below w1.heap.size w1 W/\FRow W w1.heap.size z.2.1 z.2.2/\z.2.2+101<=102*z.1/\(z.2.2=0↔N.names.length=N.cals.length/\ ∀k,1<=k->k<z.1->oH N k)) (fun z=>6-z.1) (1,fv,n) ⟨ZC,by show 1<=6; decide,b2,hFR,by show n+101<=102*1; omega,⟨fun h=>⟨hiff.1 h,fun k h1 h2=>by omega⟩,fun h=>hiff.2 h.1⟩⟩ ?_
 rintro ⟨k,fv2,m⟩ W ⟨hk1,hk6,hBW,hF2,hm,hmi⟩;dsimp only at hk1 hk6 hF2 hm hmi;have hB1W:=hB1.next hBW;have hNW:=aL hN1 hBW;refine ag ?_;refine ai rfl (fun hlt=> ?_) (fun hge=> ?_)
 ·have hk5:k<=5:=by omega
  have hnl:=hf.names k;refine ag ?_;refine aF rfl (fun _ _ hv=>hB1W.fld hv) ?_;refine ag ?_;refine aA rfl (Ct (v:=⟨.slice A1 N.cals.length c1,.slice A2 N.names.length c2,.slice A3 N.ops.length c3,.slice A4 N.offs.length c4,.slice A5 N.lines.length c5,.slice A6 N.classes.length c6⟩) hNW hf hk1 hk5) ?_;rintro y5 w5 ⟨d5,hR⟩;obtain ⟨A,cap,rfl⟩:=hR.form;have hF5:=hF2.below d5;have hB5:=hBW.step d5;have hlim:qJ k<=40:=by
   unfold qJ
   split
   ·omega
   split
   ·omega
   split<;>omega
  have hown5: ∀g,fv2.ownBlock=some g->(Value.slice A (dm N k).length cap).ownBlock≠some g:=fun g hg e=>by
   obtain ⟨zs,hO,_,_⟩:=hF2;have h1:=hO.lt hg;have h2:=hR.lb g e;omega
  refine ag ?_;refine aJ [1,4,5] (fun z:Nat×Value×Nat=> [(3,none,z.2.1),(6,none,.int .i64 (z.1:Int))])
   (fun z W'=>z.1<=(dm N k).length/\z.1<=qJ k/\Below w1.heap.size w1 W'/\FRow W' w1.heap.size z.2.1 z.2.2/\StrRow W' W.heap.size (.slice A (dm N k).length cap) (dm N k)/\(∀g,z.2.1.ownBlock=some g->(Value.slice A (dm N k).length cap).ownBlock≠some g)/\z.2.2<=m+z.1/\(z.2.2=0↔m=0/\ ∀j,j<z.1->Mf N k j)) (fun z=>(dm N k).length-z.1) (0,fv2,m) ⟨ZB,ZB,hB5,hF5,hR,hown5,by show m<=m+0; omega,⟨fun h=>⟨h,fun j hj=>by omega⟩,fun h=>h.1⟩⟩ ?_
  rintro ⟨i,fv3,m2⟩ W3 ⟨hi,hil,hB3,⟨zs,hO,h2,h3⟩,hR3,hd3,hm3,hi3⟩;dsimp only at hi hil hO h3 hd3 hm3 hi3;have hB13:=hB1.next hB3;have hN3:=aL hN1 hB3;refine ag ?_;refine aO (cap:= []) rfl rfl ie226.q rfl ct (aa rfl id ah) (fun _=>wV (k:=k)) ?_;rintro w6 d6;refine ag ?_;refine aI [1,3,4,5,6,35] rfl ?_;have hO:=hO.below d6;have hBX:=hB3.step d6;have hR6:=hR3.below d6;have hB16:=hB13.next d6;have hN6:=aL hN3 d6;refine au rfl (fun hlt2=> ?_) (fun hge2=> ?_)
  ·have hlt3:i<(dm N k).length/\i<qJ k:=by simp at hlt2; omega
   refine ag ?_;refine aF rfl (fun _ _ hv=>hB16.fld hv) ?_;refine ag ?_;refine aA rfl (JV (v:=⟨.slice A1 N.cals.length c1,.slice A2 N.names.length c2,.slice A3 N.ops.length c3,.slice A4 N.offs.length c4,.slice A5 N.lines.length c5,.slice A6 N.classes.length c6⟩) hN6 hf hk1 hk5 hR6 hlt3.1) ?_;rintro y7 w7 ⟨d7,e,rfl,he⟩;have hO:=hO.below d7;have hBX:=hBX.step d7;have hR7:=hR6.below d7;refine ag ?_;refine ai rfl (fun hne=> ?_) (fun heq=> ?_)
   ·have hne':e≠0:=by simpa using hne
    refine ag ?_;refine aH [0,1,2] _ [.int .i64 (k:Int),.int .i64 (i:Int),.int .i64 e] rfl rfl rfl (aa rfl ct (aa rfl ct (aa rfl ct ah))) (by kernel_rfl) ?_;refine ak 167 _ rfl rfl rfl om (aa rfl ct ah) rfl rfl rfl rfl rfl ?_;rintro g8 w8 f8;refine aK [.int .i64 (k:Int),.int .i64 (i:Int),.int .i64 e] rfl rfl kV rfl (hO.below f8.below) rfl rfl (fun j u hj=>⟨_,rfl,f8.blk.fld hj⟩) (fun u hu=>by simp at hu; rcases hu with rfl|rfl|rfl<;>rfl) (by omega) (by omega) ?_;rintro fv' w9 hO9 hg9 hn9;refine ag ?_;have hB8:=hBX.step f8.below;have hB9:=hB8.grown hg9 hB8.size h3;have hF9:FRow w9 w1.heap.size fv' (m2+1):=FRow.app (w:=w8) h3 h2 (fun u hu=>by simp at hu; rcases hu with rfl|rfl|rfl<;>rfl) hO9 hn9 hB8.size;have hR8:=hR7.below f8.below;have hR9:StrRow w9 W.heap.size (.slice A (dm N k).length cap) (dm N k):=⟨hR8.own.kept fun q hq=>hg9.block q (hR8.own.lt hq) (fun e=>hd3 q e.symm hq),hR8.lb⟩;refine aC (i+1,fv',m2+1) ⟨by show i+1<=_; omega,by show i+1<=_; omega,hB9,hF9,hR9,fun g hg e=> ?_,by show m2+1<=m+(i+1); omega,⟨fun h=>absurd h (Nat.succ_ne_zero m2),fun h=>absurd (he.2 (h.2 i (by show i<i+1; omega))) hne'⟩⟩;rcases hn9 with h|h
    ·exact hd3 g (by rw [<-h]; exact hg) e
    ·rw [h] at hg;cases hg;exact absurd (hR8.own.lt e) (Nat.lt_irrefl _)
   ·have heq':e=0:=by simpa using heq
    refine ag ?_;refine aC (i+1,fv3,m2) ⟨by show i+1<=_; omega,by show i+1<=_; omega,hBX,⟨zs,hO,h2,h3⟩,hR7,hd3,by show m2<=m+(i+1); omega,?_⟩;show m2=0↔m=0/\ ∀j,j<i+1->Mf N k j;rw [hi3];refine ⟨fun h=>⟨h.1,fun j hj=> ?_⟩,fun h=>⟨h.1,fun j hj=>h.2 j (by omega)⟩⟩;rcases ZI j i with h'|h'
    ·exact h.2 j h'
    ·have:j=i:=by omega
     subst this;exact he.1 heq'
  ·have hge3:i=(dm N k).length∨i=qJ k:=by
    simp only [Bool.and_eq_false_iff,decide_eq_false_iff_not] at hge2;omega
   refine ag ?_;refine aA rfl (wV (k:=k)) ?_;rintro y7 w7 ⟨d7,rfl⟩;have hO:=hO.below d7;have hBX:=hBX.step d7;refine ag ?_;refine ai rfl (fun hgt=> ?_) (fun hle=> ?_)
   ·refine ag ?_;dsimp only at hgt;refine aA rfl (wV (k:=k)) ?_;rintro y7b w7b ⟨d7b,rfl⟩;have hO:=hO.below d7b;have hBX:=hBX.step d7b;refine aH [0,1,2] _ [.int .i64 (k:Int),.int .i64 (qJ k:Int),.int .i64 2] rfl rfl rfl (aa rfl ct (aa rfl ct (aa rfl ct ah))) (by kernel_rfl) ?_;refine ak 167 _ rfl rfl rfl om (aa rfl ct ah) rfl rfl rfl rfl rfl ?_;rintro g8 w8 f8;refine aK [.int .i64 (k:Int),.int .i64 (qJ k:Int),.int .i64 2] rfl rfl kV rfl (hO.below f8.below) rfl rfl (fun j u hj=>⟨_,rfl,f8.blk.fld hj⟩) (fun u hu=>by simp at hu; rcases hu with rfl|rfl|rfl<;>rfl) (by omega) (by omega) ?_;rintro fv' w9 hO9 hg9 hn9;refine ag ?_;have hB8:=hBX.step f8.below;have hB9:=hB8.grown hg9 hB8.size h3;have hF9:FRow w9 w1.heap.size fv' (m2+1):=FRow.app (w:=w8) h3 h2 (fun u hu=>by simp at hu; rcases hu with rfl|rfl|rfl<;>rfl) hO9 hn9 hB8.size;refine aC (k+1,fv',m2+1) ⟨by show 1<=k+1; omega,by show k+1<=6; omega,hB9,hF9,by show m2+1+101<=102*(k+1); omega,⟨fun h=>absurd h (Nat.succ_ne_zero m2),fun h=>absurd (h.2 k hk1 (by show k<k+1; omega)).1 (by omega)⟩⟩
   ·refine ag ?_;dsimp only at hle;refine aC (k+1,fv3,m2) ⟨by show 1<=k+1; omega,by show k+1<=6; omega,hBX,⟨zs,hO,h2,h3⟩,by show m2+101<=102*(k+1); omega,?_⟩;show m2=0↔N.names.length=N.cals.length/\ ∀j,1<=j->j<k+1->oH N j;rw [hi3,hmi];constructor
    ·rintro ⟨⟨h1,h2⟩,h3⟩;refine ⟨h1,fun j hj1 hj=> ?_⟩;rcases ZI j k with h'|h'
     ·exact h2 j hj1 h'
     ·have:j=k:=by omega
      subst this;exact ⟨by omega,fun q hq=>h3 q (by omega)⟩
    ·rintro ⟨h1,h2⟩;exact ⟨⟨h1,fun j hj1 hj=>h2 j hj1 (by omega)⟩,fun j hj=>(h2 k hk1 (by omega)).2 j (by omega)⟩
 ·have hk:k=6:=by omega
  subst hk;refine ag ?_;refine aW rfl ⟨f1.below.step hBW,m,?_,by omega,?_⟩
  ·obtain ⟨zs,hO,h2,h3⟩:=hF2;exact ⟨zs,hO,h2,fun g hg=>Nat.le_trans hb01 (h3 g hg)⟩
  ·rw [hmi,Ic];exact ⟨fun h=>⟨h.1,fun j h1 h5=>h.2 j h1 (by omega)⟩,fun h=>⟨h.1,fun j h1 h5=>h.2 j h1 (by omega)⟩⟩
theorem vS (hN:dI w v N) (hf:FewN N):Gives prog 103 #[.agg v.cells.toArray] w (ZJ w (.bool (dec (ConsOK keys11 N)))):=by
 have hform:=NetIn.form hN;obtain ⟨vc,vn,vo,vf,vl,vk⟩:=v;obtain ⟨⟨A1,c1,e1⟩,⟨A2,c2,e2⟩,⟨A3,c3,e3⟩,⟨A4,c4,e4⟩,⟨A5,c5,e5⟩,⟨A6,c6,e6⟩⟩:=id hform;dsimp only at e1 e2 e3 e4 e5 e6;subst e1 e2 e3 e4 e5 e6;refine gv (f:=103) ?_;refine ag ?_;refine aG rfl rfl rfl rfl ?_;rintro g1 w1 f1;refine ag ?_;have hB1:=f1.blk;have hN1:=aL hN f1.below;refine aF rfl (fun _ _ hv=>hB1.fld hv) ?_;refine aA rfl (za (v:=⟨.slice A1 N.cals.length c1,.slice A2 N.names.length c2,.slice A3 N.ops.length c3,.slice A4 N.offs.length c4,.slice A5 N.lines.length c5,.slice A6 N.classes.length c6⟩) hN1 hf) ?_;rintro y2 w2 ⟨d2,n,hR,hn,hiff⟩;obtain ⟨Y,yc,rfl⟩:=FRow.form hR;refine ag ?_;refine aW rfl ⟨f1.below.step d2,?_⟩;by_cases hc:ConsOK keys11 N
 ·rw [ay hc];simp [hiff.2 hc]
 ·rw [az hc];have:n≠0:=fun e=>hc (hiff.1 e);simp;omega
theorem yL {L:List Ln} {l:Ln} (h:L[i]?=some l):gF r (L.take (i+1))=qF (gF r (L.take i)) l:=by
 unfold gF;rw [ZG,h,List.foldl_append];rfl
def mo (n b:Nat):List Int:=(List.range n).map fun i=>if i<b then -1 else 0
theorem qH (n b:Nat):(mo n b).length=n:=by simp [mo]
theorem AC (n:Nat):mo n 0=List.replicate n 0:=by
 apply List.ext_getElem?;intro i;simp [mo,List.getElem?_replicate]
 split
 ·rename_i h; simp [h]
 ·rename_i h; rw [List.getElem?_eq_none (by simpa using h)]; rfl
theorem DX (n:Nat):mo n n=List.replicate n (-1):=by
 apply List.ext_getElem?;intro i;simp only [mo,List.getElem?_replicate,List.getElem?_map]
 split
 ·rename_i h; simp [h]
 ·rename_i h; rw [List.getElem?_eq_none (by simpa using h)]; rfl
theorem AF {b:Nat} (hb:b<n):(mo n b).set b (-1)=mo n (b+1):=by
 apply List.ext_getElem?;intro i;rw [List.getElem?_set,qH];by_cases h:b=i
 ·subst h;simp [mo,hb]
 ·rw [if_neg h];unfold mo;rw [List.getElem?_map,List.getElem?_map];rcases ZI i n with hi|hi
  ·rw [List.getElem?_range hi];simp only [Option.map_some]
   congr 1
   by_cases h':i<b
   ·rw [if_pos h',if_pos (by omega)]
   ·rw [if_neg h',if_neg (by omega)]
  ·rw [List.getElem?_eq_none (by simpa using hi)]; rfl
structure RowW (w0 W:World) (g n:Nat) (r:List Int):Prop where
 own:OwnS W 3 1 (.slice (some ⟨g,0,none⟩) n n) n (r.map (Value.int .i64))
 len:r.length=n
 but:But g w0 W
theorem RowW.step {w0 W W':World} {g n:Nat} {r:List Int} (h:RowW w0 W g n r) (hb:Below W.heap.size W W'):RowW w0 W' g n r:=⟨h.own.below hb,h.len,h.but.step hb⟩
theorem RowW.cell {w0 W:World} {g n i:Nat} {r:List Int} (h:RowW w0 W g n r) (hi:i<n):W.cell? (Addr.add ⟨g,0,none⟩ ((i:Int).toNat*1))=some (.int .i64 (gB r i)):=by
 rw [Nat.mul_one,Int.toNat_natCast];refine h.own.cell1 ?_;rw [List.getElem?_map,ZD (by have:=h.len; omega)];unfold gB;rw [List.getD_eq_getElem?_getD,ZD (by have:=h.len; omega)];rfl
theorem RowW.put {W':World} {x:Int} (h:RowW w0 W g n r) (o:OwnS W' 3 1 (.slice (some ⟨g,0,none⟩) n n) n ((r.map (Value.int .i64)).set ((i:Int).toNat*1) (.int .i64 x))) (hb:But g W W'):RowW w0 W' g n (r.set i x) :=
 ⟨by
  rw [Nat.mul_one,Int.toNat_natCast] at o;rw [List.map_set];exact o,by rw [List.length_set]; exact h.len,h.but.trans hb⟩
theorem RowW.cellI {i:Int} (h:RowW w0 W g n r) (h0:0<=i) (hi:i<n):W.cell? (Addr.add ⟨g,0,none⟩ (i.toNat*1))=some (.int .i64 (gB r i.toNat)):=by
 obtain ⟨k,rfl⟩:=Int.eq_ofNat_of_zero_le h0;exact h.cell (by omega)
theorem RowW.putN {W':World} {j:Nat} {x:Int} (h:RowW w0 W g n r) (o:OwnS W' 3 1 (.slice (some ⟨g,0,none⟩) n n) n ((r.map (Value.int .i64)).set (j*1) (.int .i64 x))) (hb:But g W W'):RowW w0 W' g n (r.set j x) :=
 ⟨by
  rw [Nat.mul_one] at o;rw [List.map_set];exact o,by rw [List.length_set]; exact h.len,h.but.trans hb⟩
theorem Nh {L:List Ln} {a k:Nat} (hL:LnOK n L) (ha:a<n) (hn:n<=12) (hl:L.length<=40) (hk:k<=n):RB L n a 3000000 (gF (iI L (eG n a) k) (L.take i)):=by
 obtain ⟨h,_⟩:=RB.lines hL (L.take i) _ _ (fun l hl=>List.mem_of_mem_take hl) (by omega) (sJ hL ha k);have h1:k*L.length<=12*40:=Nat.mul_le_mul (by omega) hl;have h2:(L.take i).length<=L.length:=by rw [List.length_take]; omega
 exact ⟨h.len,h.own,fun b=>⟨(h.rng b).1,Int.le_trans (h.rng b).2 (by omega)⟩,h.sound⟩
theorem Jr (hN:dI w v N) (hf:FewN N) (hc:ConsOK keys11 N):Gives prog 164 #[.agg v.cells.toArray] w fun u w'=>Below w.heap.size w w'/\SL (sliceT bC) (fun k=>w.heap.size<=k/\k<w'.heap.size) w' u ((List.range N.offs.length).map fun a=>mD (eP N) N.offs.length a):=by
 have hform:=NetIn.form hN;obtain ⟨vc,vn,vo,vf,vl,vk⟩:=v;obtain ⟨⟨A1,c1,e1⟩,⟨A2,c2,e2⟩,⟨A3,c3,e3⟩,⟨A4,c4,e4⟩,⟨A5,c5,e5⟩,⟨A6,c6,e6⟩⟩:=id hform;dsimp only at e1 e2 e3 e4 e5 e6;subst e1 e2 e3 e4 e5 e6;obtain ⟨hL,hn12,hl40⟩:=hc.ln;have hll:(eP N).length=N.lines.length:=by unfold eP; rw [List.length_map]
 refine gv (f:=164) ?_;refine ag ?_;refine aG rfl rfl rfl rfl ?_;rintro g1 w1 f1;refine ag ?_;have hB1:=f1.blk;have hN1:=aL hN f1.below;have hb01:=f1.below.size;refine aF rfl (fun _ _ hv=>hB1.fld hv) ?_;refine aA rfl (vS (v:=⟨.slice A1 N.cals.length c1,.slice A2 N.names.length c2,.slice A3 N.ops.length c3,.slice A4 N.offs.length c4,.slice A5 N.lines.length c5,.slice A6 N.classes.length c6⟩) hN1 hf) ?_;rintro y2 w2 ⟨b2,rfl⟩;rw [ay hc];refine ag ?_;refine au rfl (fun hbad=> ?_) (fun hgood=> ?_)
 ·exact absurd hbad (by simp)
 have hB2:=hB1.next b2;have hN2:=aL hN1 b2;have b02:=f1.below.step b2;refine ag ?_;refine aJ [1] (fun x:Nat×Value×List (Value×List Int)=> [(3,none,x.2.1),(4,none,.int .i64 (x.1:Int))])
  (fun x W=>x.1<=N.offs.length/\Below w2.heap.size w2 W/\Tab W w2.heap.size x.2.1 x.2.2/\x.2.2.length=x.1/\x.2.2.map (·.2)=(List.range x.1).map fun a=>mD (eP N) N.offs.length a) (fun x=>N.offs.length-x.1) (0,.slice none 0 0,[]) ⟨ZB,ZA,⟨OwnS.nil _ _ _,(fun g hg=>by simp [Value.ownBlock] at hg),(fun p hp=>by cases hp),List.Pairwise.nil⟩,rfl,rfl⟩ ?_
 rintro ⟨a,tv,rs⟩ W ⟨ha,hW,hT,hrl,hrs⟩;dsimp only at ha hT hrl hrs;have hBW:=hB2.next hW;have hbs:=hW.size;obtain ⟨TA,tcap,htv,_⟩:=hT.own.form;subst htv;refine ag ?_;refine aj rfl (hBW.fld rfl) ?_;refine ag ?_;refine aI [1,3,4,17] rfl ?_;refine ai rfl (fun hlt=> ?_) (fun hge=> ?_)
 ·have haN:a<N.offs.length:=by omega
  refine ag ?_;refine aj rfl (hBW.fld rfl) ?_;refine ag ?_;refine bI rfl rfl (dH lF EO rfl) rfl rfl (by omega) (by omega) ?_;rintro gr wr fr;refine ag ?_;have hatr:=fr.at_;have hR0:RowW wr wr gr N.offs.length (mo N.offs.length 0):=⟨by
   rw [AC,List.map_replicate];exact bu fr.blk (by simp) (by omega),qH _ _,But.of_below ZA⟩
  refine aJ [1,3,4,5] (fun b:Nat=> [(6,none,.int .i64 (b:Int))])
   (fun b W'=>b<=N.offs.length/\RowW wr W' gr N.offs.length (mo N.offs.length b)) (fun b=>N.offs.length-b) 0 ⟨ZB,hR0⟩ ?_
  rintro b W1 ⟨hb,hR1⟩;refine ag ?_;refine ai rfl (fun hltb=> ?_) (fun hgeb=> ?_)
  ·refine ag ?_;refine eF rfl is3.q rfl rfl hR1.own (by rw [List.length_map,qH]; omega) rfl ?_;rintro W2 o2 hbut2 hsz2;refine ag ?_;have hR2:=hR1.put o2 hbut2;rw [AF (by omega)] at hR2;refine aC (b+1) ⟨by omega,hR2⟩
  have hbe:b=N.offs.length:=by omega
  subst hbe;rw [DX] at hR1;refine ag ?_;refine eF rfl is3.q rfl rfl hR1.own (by simp; omega) rfl ?_;rintro W2 o2 hbut2 hsz2;refine ag ?_;have hR2:RowW wr W2 gr N.offs.length (eG N.offs.length a):=hR1.put o2 hbut2;have hTr:=hT.step fr.below;have hg1r:g1<gr:=by have:=hB2.lt; omega
  have hkeep: ∀ {W':World},But gr wr W'-> ∀k,k<w2.heap.size->W'.heap[k]?=w2.heap[k]?:=fun hb k hk=>((hb.block k (by have:=fr.below.size; omega) (fun e=>by cases e; omega)).trans (fr.below.block k (by omega))).trans (hW.block k hk);refine aJ [1,3,4,5] (fun k:Nat=> [(7,none,.int .i64 (k:Int))])
   (fun k W'=>k<=N.offs.length/\RowW wr W' gr N.offs.length (iI (eP N) (eG N.offs.length a) k)) (fun k=>N.offs.length-k) 0 ⟨ZB,hR2⟩ ?_
  rintro k W3 ⟨hk,hR3⟩;refine ag ?_;refine ai rfl (fun hltk=> ?_) (fun hgek=> ?_)
  ·refine ag ?_;refine aJ [1,3,4,5,7] (fun i:Nat=> [(8,none,.int .i64 (i:Int))])
    (fun i W'=>i<=N.lines.length/\RowW wr W' gr N.offs.length (gF (iI (eP N) (eG N.offs.length a) k) ((eP N).take i))) (fun i=>N.lines.length-i) 0 ⟨ZB,hR3⟩ ?_
   rintro i W4 ⟨hi,hR4⟩;have hB4:Blk W4 g1 29 _:=(hkeep hR4.but g1 hB2.lt).trans hB2;have hlW:=hN2.l.mono (bn fun k hk _=>hkeep hR4.but k hk);refine ag ?_;refine aj rfl (hB4.fld rfl) ?_;refine ag ?_;refine aI [1,3,4,5,7,8,46] rfl ?_;refine ai rfl (fun hlti=> ?_) (fun hgei=> ?_)
   ·obtain ⟨l,hl,hlm⟩:=bD (l:=N.lines) (k:=i) (by omega);obtain ⟨ad,rfl⟩:=hlW.addr (by omega);obtain ⟨ad',cs,e9,hF9,hrep9,hc9⟩:=hlW.at hl;cases e9;obtain ⟨rfl,_⟩:=hrep9;have hgl:=hc.lines.good l hlm;have q1:=hgl.f1;have q2:=hgl.f2;have q3:=hgl.t1;have q4:=hgl.t2;have q5:=hgl.r1;have q6:=hgl.r2;have hLi:(eP N)[i]?=some (l.frm.toNat,l.to.toNat,l.trav):=by unfold eP; rw [List.getElem?_map,hl]; rfl
    have hrb:=Nh (i:=i) hL haN hn12 hl40 hk;obtain ⟨r,hr⟩: ∃r,r=gF (iI (eP N) (eG N.offs.length a) k) ((eP N).take i):=⟨_,rfl⟩;have hrn:=yL (r:=iI (eP N) (eG N.offs.length a) k) hLi;rw [<-hr] at hR4 hrb hrn;have hx:=hrb.rng l.frm.toNat;have hy:=hrb.rng l.to.toNat;refine ag ?_;refine aj rfl (hB4.fld rfl) ?_;refine ag ?_;refine aF rfl (hc9) ?_;refine aM rfl EQ rfl is113.q rfl rfl ?_;rintro g9 w9 f9;refine ag ?_;refine bg mixed (by kernel_rfl) ?_;refine aZ ?_;have hR9:=hR4.step f9.below;have hB9:Blk w9 g9 113 (Cv l):=f9.blk;have hxc:=hR9.cellI q1 q2;have hyc:=hR9.cellI q3 q4;refine aB rfl (hB9.fld rfl) ?_;refine aZ ?_;refine aB rfl hxc ?_;refine aZ ?_;refine aB rfl (hB9.fld rfl) ?_;refine aZ ?_;refine aB rfl hyc ?_;refine aZ ?_;refine aB rfl (hB9.fld rfl) ?_;refine aZ ?_;refine aB rfl hyc ?_;refine aZ ?_;refine aB rfl (hB9.fld rfl) ?_;refine aZ ?_;refine aB rfl hxc ?_;refine aZ ?_;refine aB rfl (hB9.fld rfl) ?_;refine aZ ?_;refine bR [1,3,4,5,7,8,9,83] rfl fun w10 b10=> ?_;refine aD ?_;have hRA:=hR9.step b10;have hBA:=hB9.next b10;refine au rfl (fun hyes=> ?_) (fun hno=> ?_)
    ·skip
     refine dE mixed fun W5 h5=> ?_;refine dL .weak 12 (by kernel_rfl) (by kernel_rfl) rfl rfl h5 ?_;refine aZ ?_;refine aB rfl (hBA.fld rfl) ?_;refine aZ ?_;refine aB rfl (hBA.fld rfl) ?_;refine aZ ?_;refine aB rfl (hRA.cellI q1 q2) ?_;refine aZ ?_;refine aB rfl (hBA.fld rfl) ?_;refine aZ ?_;refine dD (iv [1,3,4,5,7,8,9,94,95] [(1,_,_),(3,_,_),(4,_,_),(5,_,_),(7,_,_),(8,_,_),(9,_,_),(94,_,_),(95,_,_)] rfl (fun w11 b11=>ek ?_));refine bV (by kernel_rfl) (by kernel_rfl) rfl ?_;have hRB:=hRA.step b11;refine eF rfl is3.q rfl rfl hRB.own (by rw [List.length_map,hRB.len]; omega) rfl ?_;rintro w12 o12 hbut12 hsz12;refine bG (aS [1,3,4,5,7,8,9] [(1,_,_),(3,_,_),(4,_,_),(5,_,_),(7,_,_),(8,_,_),(9,_,_)] rfl (dJ ?_));refine ed rfl (aS [1,3,4,5,7,8,9] [(1,_,_),(3,_,_),(4,_,_),(5,_,_),(7,_,_),(8,_,_),(9,_,_)] rfl (bP (aD ?_)));refine ag ?_;have hRC:=hRB.putN o12 hbut12;have he:r.set l.to.toNat (gB r l.frm.toNat+l.trav)=qF r (l.frm.toNat,l.to.toNat,l.trav):=by
      unfold qF;rw [if_pos (by simpa using hyes)]
     rw [he,<-hrn] at hRC;refine aC (i+1) ⟨by omega,hRC⟩
    ·have he:r=qF r (l.frm.toNat,l.to.toNat,l.trav):=by
      unfold qF;rw [if_neg (by simpa using hno)]
     rw [he,<-hrn] at hRA;refine ag ?_;refine aC (i+1) ⟨by omega,hRA⟩
   ·have hie:i=N.lines.length:=by omega
    subst hie;rw [<-hll,List.take_length] at hR4;refine ag ?_;refine aC (k+1) ⟨by omega,hR4⟩
  have hke:k=N.offs.length:=by omega
  subst hke;have hRF:RowW wr W3 gr N.offs.length (mD (eP N) N.offs.length a):=hR3;have hrow:=wJ hL haN;have hTF:Tab W3 w2.heap.size (.slice TA rs.length tcap) rs:=hTr.but hRF.but (fun e=>absurd (hT.own.lt e) (by omega)) (fun p hp e=>absurd ((hT.row p hp).1.lt e) (by omega));refine ag ?_;refine ak 32 _ rfl rfl rfl zf (aa rfl ct ah) rfl rfl rfl rfl rfl ?_;rintro g26 w26 f26;have hT26:=hTF.step f26.below;have hR26:=hRF.step f26.below;refine aK [.slice (some ⟨gr,0,none⟩) N.offs.length N.offs.length] rfl rfl Eb rfl hT26.own rfl rfl (fun j v hj=>⟨⟨g26,0,none⟩,rfl,f26.blk.fld hj⟩) (fun v hv=>by simp at hv; subst hv; rfl) (by omega) (by omega) ?_;rintro tv' w27 o27 hg27 hn27;refine ag ?_;have hl9:(mD (eP N) N.offs.length a).length=N.offs.length:=hrow.1;have hBw:Below w2.heap.size w2 w26:=((hW.step fr.below).grown hRF.but (by have:=fr.below.size; omega) (fun q hq=>by cases hq; omega)).step f26.below;have hT27:Tab w27 w2.heap.size tv' (rs++ [(.slice (some ⟨gr,0,none⟩) N.offs.length N.offs.length,mD (eP N) N.offs.length a)]):=by
   refine hT26.app o27 hg27 hn27 hBw.size (by rw [hl9]; exact hR26.own) (fun x hx=> ?_) (fun g hg=> ?_) (fun p hp g hg e=> ?_)
   ·obtain ⟨j,hj⟩:=List.mem_iff_getElem?.1 hx;have h9:=hrow.2.1 j;have h8:N.offs.length*(eP N).length<=12*40:=Nat.mul_le_mul hn12 hl40;unfold gB at h9;rw [List.getD_eq_getElem?_getD,hj] at h9;simp only [Option.getD_some] at h9;exact ⟨by omega,by omega⟩
   ·cases hg;exact ⟨by show w2.heap.size<=gr; omega,fun e=>by
     have h9:gr<W.heap.size:=hT.own.lt e;omega⟩
   ·cases e;have h9:gr<W.heap.size:=(hT.row p hp).1.lt hg;omega
  refine aC (a+1,tv',rs++ [(.slice (some ⟨gr,0,none⟩) N.offs.length N.offs.length,mD (eP N) N.offs.length a)]) ⟨by show a+1<=_; omega,hBw.grown hg27 hBw.size hT.lb,hT27,by simp [hrl],?_⟩;show List.map Prod.snd (rs++ [_])=_;rw [List.map_append,hrs,List.range_succ,List.map_append];rfl
 ·have hae:a=N.offs.length:=by omega
  subst hae;have hsd:=hT.sdF (by omega) (fun p hp=>by
   have:p.2∈rs.map (·.2):=List.mem_map_of_mem hp;rw [hrs] at this;obtain ⟨i,hi,e⟩:=List.mem_map.1 this;rw [<-e,(wJ hL (List.mem_range.1 hi)).1];omega)
  rw [hrs] at hsd;refine ag ?_;refine aW rfl ⟨b02.step hW,hsd.wider fun k hk=>⟨Nat.le_trans b02.size hk.1,hk.2⟩⟩
theorem Gd (hN:dI w v N) (hf:FewN N):Gives prog 95 #[.agg v.cells.toArray] w fun u w'=>Below w.heap.size w w'/\ ∃A n c,u= .slice A n c/\(n=0↔SoundOK keys11 N):=by
 have hform:=NetIn.form hN;obtain ⟨vc,vn,vo,vf,vl,vk⟩:=v;obtain ⟨⟨A1,c1,e1⟩,⟨A2,c2,e2⟩,⟨A3,c3,e3⟩,⟨A4,c4,e4⟩,⟨A5,c5,e5⟩,⟨A6,c6,e6⟩⟩:=id hform;dsimp only at e1 e2 e3 e4 e5 e6;subst e1 e2 e3 e4 e5 e6;refine gv (f:=95) ?_;refine ag ?_;refine aG rfl rfl rfl rfl ?_;rintro g1 w1 f1;refine ag ?_;have hB1:=f1.blk;have hN1:=aL hN f1.below;refine aF rfl (fun _ _ hv=>hB1.fld hv) ?_;refine aA rfl (za (v:=⟨.slice A1 N.cals.length c1,.slice A2 N.names.length c2,.slice A3 N.ops.length c3,.slice A4 N.offs.length c4,.slice A5 N.lines.length c5,.slice A6 N.classes.length c6⟩) hN1 hf) ?_;rintro y2 w2 ⟨d2,n,hR,hn,hiff⟩;obtain ⟨Y,yc,rfl⟩:=FRow.form hR;have b2:=f1.below.step d2;have hB2:=hB1.next d2;refine ag ?_;refine ai rfl (fun hbad=> ?_) (fun hgood=> ?_)
 ·refine ag ?_;refine aW rfl ⟨b2,_,_,_,rfl,⟨fun h=>by omega,fun h=>hiff.2 h.cons⟩⟩
 have hcons:ConsOK keys11 N:=hiff.1 (by omega);obtain ⟨hL,hn12,hl40⟩:=hcons.ln;have hn0:n=0:=by omega
 subst hn0;refine ag ?_;refine aF rfl (fun _ _ hv=>hB2.fld hv) ?_;refine aA rfl (Jr (v:=⟨.slice A1 N.cals.length c1,.slice A2 N.names.length c2,.slice A3 N.ops.length c3,.slice A4 N.offs.length c4,.slice A5 N.lines.length c5,.slice A6 N.classes.length c6⟩) (aL hN1 d2) hf hcons) ?_;rintro y3 w3 ⟨d3,hd⟩;obtain ⟨D,hD⟩: ∃D,D=(List.range N.offs.length).map fun a=>mD (eP N) N.offs.length a:=⟨_,rfl⟩;rw [<-hD] at hd;have hDl:D.length=N.offs.length:=by rw [hD]; simp
 have hDr: ∀a,a<N.offs.length->D[a]?=some (mD (eP N) N.offs.length a):=fun a ha=>by rw [hD,List.getElem?_map,List.getElem?_range ha]; rfl
 obtain ⟨DA,dcap,rfl,_⟩:=hd.form;have hR3:=hR.below d3;have b3:=b2.step d3;have b13:Below w1.heap.size w1 w3:=d2.step d3;refine ag ?_;refine aJ [4] (fun z:Nat×Value×Nat=> [(3,none,z.2.1),(5,none,.int .i64 (z.1:Int))])
  (fun z W=>z.1<=N.offs.length/\Below w1.heap.size w1 W/\w3.heap.size<=W.heap.size/\SL (sliceT bC) (fun k=>w2.heap.size<=k/\k<w3.heap.size) W (.slice DA D.length dcap) D/\FRow W w1.heap.size z.2.1 z.2.2/\(∀g,z.2.1.ownBlock=some g->g<w2.heap.size∨w3.heap.size<=g)/\z.2.2<=z.1/\(z.2.2=0↔ ∀a b,b<z.1->a<N.offs.length->ReachL (eP N) a b)) (fun z=>N.offs.length-z.1) (0,.slice Y 0 yc,0) ⟨ZB,b13,ZC,hd,hR3,fun g hg=> .inl (by obtain ⟨zs,hO,_⟩:=hR; exact hO.lt hg),ZC,⟨fun _ a b hb=>by omega,fun _=>rfl⟩⟩ ?_
 rintro ⟨b,fv,n⟩ W ⟨hb,hW,hWs,hdW,⟨zs,hO,h2,h3⟩,hdj,hnb,hre⟩;dsimp only at hb hO h3 hdj hnb hre;refine ag ?_;refine aI [3,4,5,19] rfl ?_;refine ai rfl (fun hlt=> ?_) (fun hge=> ?_)
 ·have hbN:b<N.offs.length:=by omega
  refine ag ?_;refine aJ [3,4,5] (fun z:Nat×Bool=> [(6,none,.bool z.2),(7,none,.int .i64 (z.1:Int))])
   (fun z W'=>z.1<=N.offs.length/\W'=W/\(z.2=false↔ ∀i,i<z.1->ReachL (eP N) i b)) (fun z=>N.offs.length-z.1) (0,false) ⟨ZB,rfl,⟨fun _ i hi=>by omega,fun _=>rfl⟩⟩ ?_
  rintro ⟨a,cut⟩ W' ⟨ha,rfl,hcut⟩;dsimp only at ha hcut;refine ag ?_;refine ai rfl (fun hlt2=> ?_) (fun hge2=> ?_)
  ·have haN:a<N.offs.length:=by omega
   obtain ⟨DD,rfl⟩:=hdW.addr (by omega);have hra:=hDr a haN;obtain ⟨rv,hcell,hrow⟩:=hdW.row hra;obtain ⟨R,rcap,rfl,_⟩:=hrow.form;have hro:=wJ hL haN;obtain ⟨rd,rfl⟩:=hrow.addr (by omega);obtain ⟨x,hx⟩: ∃x,(mD (eP N) N.offs.length a)[b]?=some x:=⟨_,ZD (by omega)⟩;have hgx:gB (mD (eP N) N.offs.length a) b=x:=by unfold gB; rw [List.getD_eq_getElem?_getD,hx]; rfl
   have hiffab:=hro.2.2 b hbN;rw [hgx] at hiffab;have hrl:=hro.1;refine ag ?_;refine aj rfl hcell ?_;refine ag ?_;refine aj rfl (hrow.getI hx) ?_;refine ag ?_;refine aC (a+1,cut||decide (x<0)) ⟨by show a+1<=_; omega,rfl,?_⟩;show (cut||decide (x<0))=false↔ ∀i,i<a+1->ReachL (eP N) i b;rw [Bool.or_eq_false_iff,hcut,decide_eq_false_iff_not];constructor
   ·rintro ⟨h1,h2⟩ i hi;rcases ZI i a with h|h
    ·exact h1 i h
    ·have:i=a:=by omega
     subst this;exact Classical.byContradiction fun h=>h2 (hiffab.2 h)
   ·intro h;exact ⟨fun i hi=>h i (by omega),fun hx0=>hiffab.1 hx0 (h a (by omega))⟩
  have hae:a=N.offs.length:=by omega
  subst hae;refine ag ?_;refine au rfl (fun hyes=> ?_) (fun hno=> ?_)
  ·have hcb: ¬ ∀i,i<N.offs.length->ReachL (eP N) i b:=fun h=>by rw [hcut.2 h] at hyes; cases hyes
   refine ag ?_;refine aH [0,1,2] _ [.int .i64 3,.int .i64 (b:Int),.int .i64 111] rfl rfl rfl (aa rfl ct (aa rfl ct (aa rfl ct ah))) (by kernel_rfl) ?_;refine ak 167 _ rfl rfl rfl om (aa rfl ct ah) rfl rfl rfl rfl rfl ?_;rintro g5 w5 f5;refine aK [.int .i64 3,.int .i64 (b:Int),.int .i64 111] rfl rfl kV rfl (hO.below f5.below) rfl rfl (fun j u hj=>⟨_,rfl,f5.blk.fld hj⟩) (fun u hu=>by simp at hu; rcases hu with rfl|rfl|rfl<;>rfl) (by omega) (by omega) ?_;rintro fv' w6 hO6 hg6 hn6;refine ag ?_;have hW5:=hW.step f5.below;have hd6:=(hdW.below f5.below).mono (bn fun k hk hlt=>hg6.block k hlt (fun e=>by have:=hdj k e.symm; omega));have hs3:=b13.size;have hs5:w3.heap.size<=w5.heap.size:=Nat.le_trans hWs f5.below.size;refine aC (b+1,fv',n+1) ⟨by show b+1<=_; omega,hW5.grown hg6 hW5.size h3,Nat.le_trans hs5 hg6.size,hd6,FRow.app (w:=w5) h3 h2 (fun u hu=>by simp at hu; rcases hu with rfl|rfl|rfl<;>rfl) hO6 hn6 hW5.size,fun g hg=> ?_,by show n+1<=b+1; omega,⟨fun h=>absurd h (Nat.succ_ne_zero n),fun h=>absurd (fun i hi=>h i b (by show b<b+1; omega) hi) hcb⟩⟩;rcases hn6 with h|h
   ·exact hdj g (by rw [<-h]; exact hg)
   ·rw [h] at hg; cases hg; exact .inr hs5
  ·have hall:=hcut.1 hno;refine ag ?_;refine aC (b+1,fv,n) ⟨by show b+1<=_; omega,hW,hWs,hdW,⟨zs,hO,h2,h3⟩,hdj,by show n<=b+1; omega,?_⟩;show n=0↔ ∀x y,y<b+1->x<N.offs.length->ReachL (eP N) x y;rw [hre];refine ⟨fun h x y hy hx=> ?_,fun h x y hy hx=>h x y (by omega) hx⟩;rcases ZI y b with h'|h'
   ·exact h x y h' hx
   ·have:y=b:=by omega
    subst this;exact hall x hx
 ·have hbl:b=N.offs.length:=by omega
  subst hbl;obtain ⟨Z,zc,hzv,_⟩:=hO.form;subst hzv;refine ag ?_;refine aW rfl ⟨f1.below.step hW,_,_,_,rfl,?_⟩;rw [hre];exact ⟨fun h=>⟨hcons,fun a b ha hb=>h a b hb ha⟩,fun h a b hb ha=>h.all a b ha hb⟩
theorem xP (hN:dI w v N) (hf:FewN N):Gives prog 43 #[.agg v.cells.toArray] w (ZJ w (.bool (dec (SoundOK keys11 N)))):=by
 have hform:=NetIn.form hN;obtain ⟨vc,vn,vo,vf,vl,vk⟩:=v;obtain ⟨⟨A1,c1,e1⟩,⟨A2,c2,e2⟩,⟨A3,c3,e3⟩,⟨A4,c4,e4⟩,⟨A5,c5,e5⟩,⟨A6,c6,e6⟩⟩:=id hform;dsimp only at e1 e2 e3 e4 e5 e6;subst e1 e2 e3 e4 e5 e6;refine gv (f:=43) ?_;refine ag ?_;refine aG rfl rfl rfl rfl ?_;rintro g1 w1 f1;refine ag ?_;have hB1:=f1.blk;have hN1:=aL hN f1.below;refine aF rfl (fun _ _ hv=>hB1.fld hv) ?_;refine aA rfl (Gd (v:=⟨.slice A1 N.cals.length c1,.slice A2 N.names.length c2,.slice A3 N.ops.length c3,.slice A4 N.offs.length c4,.slice A5 N.lines.length c5,.slice A6 N.classes.length c6⟩) hN1 hf) ?_;rintro y2 w2 ⟨d2,A,n,cap,rfl,hiff⟩;refine ag ?_;refine aW rfl ⟨f1.below.step d2,?_⟩;by_cases hc:SoundOK keys11 N
 ·rw [ay hc];simp [hiff.2 hc]
 ·rw [az hc];have:n≠0:=fun e=>hc (hiff.1 e);simp;omega
structure FewR (N:Net):Prop where
 c:N.cals.length<=10
 n:N.names.length<=10
 o:N.ops.length<=10
 f:N.offs.length<=16
 l:N.lines.length<=50
 k:N.classes.length<=8
 cal: ∀x∈N.cals,x.week.length<=20/\x.hol.length<=60
 cod: ∀x∈N.offs,x.codes.length<=30
 nam: ∀k,1<=k->k<=5-> ∀s∈dm N k,s.size<=40
theorem FewR.few (h:FewR N):FewN N:=⟨by have:=h.c; omega,by have:=h.n; omega,by have:=h.o; omega,by have:=h.f; omega,by have:=h.l; omega,by have:=h.k; omega⟩
theorem Ld (hN:dI w v N):Gives prog 34 #[.agg v.cells.toArray] w (ZJ w (.bool (dec (FewR N)))):=by
 have hform:=NetIn.form hN;obtain ⟨vc,vn,vo,vf,vl,vk⟩:=v;obtain ⟨⟨A1,c1,e1⟩,⟨A2,c2,e2⟩,⟨A3,c3,e3⟩,⟨A4,c4,e4⟩,⟨A5,c5,e5⟩,⟨A6,c6,e6⟩⟩:=id hform;dsimp only at e1 e2 e3 e4 e5 e6;subst e1 e2 e3 e4 e5 e6;refine gv (f:=34) ?_;refine ag ?_;refine aG rfl rfl rfl rfl ?_;rintro g1 w1 f1;refine ag ?_;have hB1:=f1.blk;have hN1:=aL hN f1.below;have b1:=f1.below;refine aj rfl (hB1.fld rfl) ?_;refine ag ?_;refine aj rfl (hB1.fld rfl) ?_;refine ag ?_;refine aj rfl (hB1.fld rfl) ?_;refine ag ?_;refine aj rfl (hB1.fld rfl) ?_;refine ag ?_;refine aj rfl (hB1.fld rfl) ?_;refine ag ?_;refine aj rfl (hB1.fld rfl) ?_;refine ag ?_;refine aI [0,1,2,41] rfl ?_;refine au rfl (fun hbad=> ?_) (fun hgood=> ?_)
 ·refine ag ?_;refine aW rfl ⟨b1,?_⟩;rw [az fun h=> ?_];have q1:=h.c;have q2:=h.n;have q3:=h.o;have q4:=h.f;have q5:=h.l;have q6:=h.k;simp at hbad;omega
 have hg:(N.cals.length<=10/\N.names.length<=10/\N.ops.length<=10)/\N.offs.length<=16/\N.lines.length<=50/\N.classes.length<=8:=by
  simp at hgood;omega
 have hf:FewN N:=⟨by omega,by omega,by omega,by omega,by omega,by omega⟩;refine ag ?_;refine aJ [1] (fun i:Nat=> [(3,none,.int .i64 (i:Int))])
  (fun i W=>i<=N.cals.length/\Below w1.heap.size w1 W/\ ∀x∈N.cals.take i,x.week.length<=20/\x.hol.length<=60) (fun i=>N.cals.length-i) 0 ⟨ZB,ZA,fun x hx=>by simp at hx⟩ ?_
 rintro i W ⟨hi,hW,hok⟩;have hBW:=hB1.next hW;refine ag ?_;refine aj rfl (hBW.fld rfl) ?_;refine ag ?_;refine ai rfl (fun hlt=> ?_) (fun hge=> ?_)
 ·obtain ⟨x,hx,hxm⟩:=bD (l:=N.cals) (k:=i) (by omega);have hnW:=hN1.c.below hW;obtain ⟨ad,rfl⟩:=hnW.addr (by omega);obtain ⟨ad',cs,e9,hF9,hrep9,hc9⟩:=hnW.at hx;cases e9;obtain ⟨u1,u2,rfl,q1,q2,q3⟩:=hrep9;refine ag ?_;refine aj rfl (hBW.fld rfl) ?_;refine ag ?_;refine aF rfl (hc9) ?_;refine aA rfl (FJ (u:=u1) (v:=u2) ⟨q1,q2,q3⟩) ?_;rintro y5 w5 ⟨d5,rfl⟩;refine ag ?_;refine aI [1,3,55] rfl ?_;refine au rfl (fun hb1=> ?_) (fun hb2=> ?_)
  ·refine ag ?_;refine aW rfl ⟨(b1.step hW).step d5,?_⟩;rw [az fun h=> ?_];have:=h.cal x hxm;simp [this.1,this.2] at hb1
  ·refine ag ?_;refine aC (i+1) ⟨by omega,hW.step d5,fun z hz=> ?_⟩;rw [ZG,hx] at hz;rcases ZH hz with hz|hz
   ·exact hok z hz
   ·simp at hz;subst hz;simpa using hb2
 rw [List.take_of_length_le (by omega)] at hok;refine ag ?_;refine aJ [1] (fun j:Nat=> [(4,none,.int .i64 (j:Int))])
  (fun j W'=>j<=N.offs.length/\W'=W/\ ∀x∈N.offs.take j,x.codes.length<=30) (fun j=>N.offs.length-j) 0 ⟨ZB,rfl,fun x hx=>by simp at hx⟩ ?_
 rintro j W' ⟨hj,rfl,hcok⟩;refine ag ?_;refine aj rfl (hBW.fld rfl) ?_;refine ag ?_;refine ai rfl (fun hlt2=> ?_) (fun hge2=> ?_)
 ·obtain ⟨x,hx,hxm⟩:=bD (l:=N.offs) (k:=j) (by omega);have hnW:=hN1.f.below hW;obtain ⟨ad,rfl⟩:=hnW.addr (by omega);obtain ⟨ad',cs,e9,hF9,hrep9,hc9⟩:=hnW.at hx;cases e9;obtain ⟨u1,rfl,q1,q2,q3,q4,q5,q6,q7⟩:=hrep9;obtain ⟨U,ucap,rfl,_⟩:=q7.form;refine ag ?_;refine aj rfl (hBW.fld rfl) ?_;refine ag ?_;refine aj rfl (hc9 6 _ rfl) ?_;refine ag ?_;refine aI [1,4,70] rfl ?_;refine ai rfl (fun hb1=> ?_) (fun hb2=> ?_)
  ·refine ag ?_;refine aW rfl ⟨b1.step hW,?_⟩;rw [az fun h=> ?_];have:=h.cod x hxm;omega
  ·refine ag ?_;refine aC (j+1) ⟨by omega,rfl,fun z hz=> ?_⟩;rw [ZG,hx] at hz;rcases ZH hz with hz|hz
   ·exact hcok z hz
   ·simp at hz;subst hz;omega
 rw [List.take_of_length_le (by omega)] at hcok;refine ag ?_;refine aJ [1] (fun k:Nat=> [(5,none,.int .i64 (k:Int))])
  (fun k W'=>1<=k/\k<=6/\Below w1.heap.size w1 W'/\ ∀j,1<=j->j<k-> ∀s∈dm N j,s.size<=40) (fun k=>6-k) 1 ⟨ZC,by decide,hW,fun j h1 h2=>by omega⟩ ?_
 rintro k W2 ⟨hk1,hk6,hW2,hnok⟩;have hBW2:=hB1.next hW2;have hNW2:=aL hN1 hW2;refine ag ?_;refine ai rfl (fun hlt3=> ?_) (fun hge3=> ?_)
 ·have hk5:k<=5:=by omega
  have hnl:=hf.names k;refine ag ?_;refine aF rfl (fun _ _ hv=>hBW2.fld hv) ?_;refine ag ?_;refine aA rfl (Ct (v:=⟨.slice A1 N.cals.length c1,.slice A2 N.names.length c2,.slice A3 N.ops.length c3,.slice A4 N.offs.length c4,.slice A5 N.lines.length c5,.slice A6 N.classes.length c6⟩) hNW2 hf hk1 hk5) ?_;rintro y5 w5 ⟨d5,hR⟩;obtain ⟨A,cap,rfl⟩:=hR.form;refine ag ?_;refine aJ [1,5,6] (fun i:Nat=> [(7,none,.int .i64 (i:Int))])
   (fun i W'=>i<=(dm N k).length/\W'=w5/\ ∀s∈(dm N k).take i,s.size<=40) (fun i=>(dm N k).length-i) 0 ⟨ZB,rfl,fun x hx=>by simp at hx⟩ ?_
  rintro i W3 ⟨hi,rfl,hiok⟩;refine ag ?_;refine aI [1,5,6,7,81] rfl ?_;refine ai rfl (fun hlt4=> ?_) (fun hge4=> ?_)
  ·obtain ⟨s,hs,hsm⟩:=bD (l:=dm N k) (k:=i) (by omega);obtain ⟨g,rfl,hsc⟩:=hR.at hs;refine ag ?_;refine aj rfl hsc ?_;refine ag ?_;refine ai rfl (fun hb1=> ?_) (fun hb2=> ?_)
   ·refine ag ?_;refine aW rfl ⟨(b1.step hW2).step d5,?_⟩;rw [az fun h=> ?_];have:=h.nam k hk1 hk5 s hsm;omega
   ·refine ag ?_;refine aC (i+1) ⟨by omega,rfl,fun z hz=> ?_⟩;rw [ZG,hs] at hz;rcases ZH hz with hz|hz
    ·exact hiok z hz
    ·simp at hz;subst hz;omega
  ·rw [List.take_of_length_le (by omega)] at hiok;refine ag ?_;refine aC (k+1) ⟨by omega,by omega,hW2.step d5,fun j h1 h2=> ?_⟩;rcases ZI j k with h|h
   ·exact hnok j h1 h
   ·have:j=k:=by omega
    subst this;exact hiok
 ·refine ag ?_;refine aW rfl ⟨b1.step hW2,?_⟩;rw [ay ⟨hg.1.1,hg.1.2.1,hg.1.2.2,hg.2.1,hg.2.2.1,hg.2.2.2,hok,hcok,fun j h1 h5=>hnok j h1 (by omega)⟩]
end Go.Proofs.YtobaafdejnimkaaGreatDoor
namespace Go.PF
open Go.RowKit
theorem RowL.appSL {α:Type} {T:Ty α} {w w':World} {e:TypeId} {b:Nat} {v v':Value} {ps:List (List Value×α)} (h:RowL T w e b v ps) (qs:List (List Value×α)) (h0:0<T.n) (hO:OwnS w' e T.n v' (ps.length+qs.length) (ps.flatMap (fun p=>p.1)++qs.flatMap (fun p=>p.1))) (hg:w.grownBy w' v.ownBlock)
  (hr: ∀q∈qs,T.rep (kF w v) w q.1 q.2) (hb:ps.length+qs.length<=9223372036854775807):SL T (fun k=>k<w'.heap.size) w' v' (ps.map (fun p=>p.2)++qs.map (fun p=>p.2)):=by
 have hk:Kept (kF w v) w w':=bn fun k hk hlt=>hg.block k hlt (fun e=>hk.2 e.symm);have:=dR (T:=T) (F:=fun k=>k<w'.heap.size) (w:=w') (e:=e) (v:=v') (n:=ps.length+qs.length) (ps++qs) (fun p hp=>by
  have hrep:T.rep (kF w v) w p.1 p.2:=by
   rcases ZH hp with hp|hp
   ·exact h.2.1 p hp
   ·exact hr p hp
  exact T.wider _ _ _ _ _ (fun k hk2=>Nat.lt_of_lt_of_le hk2.1 hg.size) (T.mono _ _ _ _ _ hk hrep)) h0 (by rw [List.flatMap_append]; exact hO) (by simp) (fun g hg'=>hO.lt hg') (by simpa using hb)
 rw [List.map_append] at this;exact this
end Go.PF
namespace Go.Proofs.YtobaafdejnimkaaGreatDoor
open Tryz
open Go.PF Go.RowKit Go.Ord
attribute [local irreducible] TW CW KW DW
variable {w:World} {l:List Ev} {lv dv wv:Value} {d:bA} {ws:List (List Int)} {t o:Int}
theorem xQ {v u:Value} {S:List Int} {F:Nat->Prop} (hl:SE w v l) (hS:SL bC F w u S) (hsm:l.length<=1000000) :
  Gives prog 99 #[v,u] w fun x w'=>Below w.heap.size w w'/\ ∃ps,RowL evT w' 60 w.heap.size x ps/\ps.map (·.2)=bz l S:=by
 obtain ⟨A,cap,rfl,_⟩:=hl.form;obtain ⟨B,bcap,rfl,_⟩:=hS.form;refine gv (f:=99) ?_;refine ag ?_;refine gJ 60 rfl rfl qP ?_;rintro g1 w1 f1;have hg1:=f1.at_;refine ag ?_;refine aJ [0,1] (fun x:Nat×Value×List (List Value×Ev)=> [(5,none,x.2.1),(6,none,.int .i64 (x.1:Int))])
  (fun x W'=>x.1<=l.length/\Below w.heap.size w W'/\RowL evT W' 60 w.heap.size x.2.1 x.2.2/\x.2.2.map (·.2)=bz (l.take x.1) S) (fun x=>l.length-x.1) (0,.slice (some ⟨g1,0,none⟩) 0 0,[]) ⟨ZB,f1.below,⟨bu f1.blk rfl (by omega),(fun p hp=>by cases hp),(fun g hg=>by simp [Value.ownBlock] at hg; omega)⟩,rfl⟩ ?_
 rintro ⟨k,rv,ps⟩ W ⟨hk,hB,hR,hmap⟩;dsimp only at hk hB hR hmap;refine ag ?_;refine ai rfl (fun hlt=> ?_) (fun hge=> ?_)
 ·have hkl:k<l.length:=by omega
  obtain ⟨e,he,hem⟩:=bD (l:=l) (k:=k) (by omega);obtain ⟨ad,rfl⟩:=hl.addr (by omega);obtain ⟨nv,hcells0,i1,i2,i3,hn0⟩:=SE.get hl he;obtain ⟨C,ncap,rfl,_⟩:=hn0.form;have hcells: ∀j v,[Value.int .i64 e.office,.int .i64 e.low,.int .i64 e.high,.slice C e.needs.length ncap][j]?=some v->W.cell? ((ad.add ((k:Int).toNat*4)).add j)=some v:=fun j v hv=>(hB.cell (block_lt_of_cell (hcells0 j v hv))).trans (hcells0 j v hv);have hneeds:=hn0.below hB;have hnmax:=hneeds.len.2.2;have cellsW: ∀W',Below W.heap.size W W'-> ∀j v,[Value.int .i64 e.office,.int .i64 e.low,.int .i64 e.high,.slice C e.needs.length ncap][j]?=some v->W'.cell? ((ad.add ((k:Int).toNat*4)).add j)=some v:=fun W' hb j v hv=>(hb.cell (block_lt_of_cell (hcells j v hv))).trans (hcells j v hv);have htk:bz (l.take (k+1)) S=bz (l.take k) S++if gone S e then [] else [e]:=by
   unfold bz;rw [ZG,he,List.filter_append];cases hq:gone S e<;>simp [List.filter,hq]
  refine ag ?_;refine aJ [0,1,5,6] (fun j:Nat=> [(7,none,.bool (!(e.needs.take j).any fun r=>S.contains r)),(8,none,.int .i64 (j:Int))])
   (fun j W'=>j<=e.needs.length/\Below W.heap.size W W') (fun j=>e.needs.length-j) 0 ⟨ZB,ZA⟩ ?_
  rintro j W2 ⟨hj,hB2⟩;refine ag ?_;refine aj rfl (cellsW W2 hB2 3 _ rfl) ?_;refine ag ?_;refine ai rfl (fun hlt2=> ?_) (fun hge2=> ?_)
  ·obtain ⟨x,hx,hxm⟩:=bD (l:=e.needs) (k:=j) (by omega);have hn2:=hneeds.below hB2;obtain ⟨cd,rfl⟩:=hn2.addr (by omega);refine ag ?_;refine aj rfl (cellsW W2 hB2 3 _ rfl) ?_;refine ag ?_;refine aj rfl (hn2.getI hx) ?_;refine aO (cap:= []) rfl rfl ie167.q rfl ct (aa rfl id (aa rfl id ah)) (fun _=>Kr ((hS.below hB).below hB2)) ?_;rintro w3 c3;refine ag ?_;refine aC (j+1) ⟨by omega,hB2.step c3⟩ (hp:= ?_);have ht:(e.needs.take (j+1)).any (fun r=>S.contains r)=((e.needs.take j).any (fun r=>S.contains r)||S.contains x):=by
    rw [ZG,hx,List.any_append];simp
   rw [ht];have hc:S.contains x=decide (x∈S):=by simp
   rw [hc];cases (e.needs.take j).any (fun r=>S.contains r)<;>rfl
  have hjn:j=e.needs.length:=by omega
  subst hjn;rw [List.take_length];have hg:(e.needs.any fun r=>S.contains r)=gone S e:=rfl;rw [hg];have hR2:=hR.step hB2;refine ag ?_;refine au rfl (fun hin=> ?_) (fun hout=> ?_)
  ·have hg0:gone S e=false:=by simpa using hin
   rw [hg0] at htk;refine ag ?_;refine aF rfl (cellsW W2 hB2) ?_;refine ak 60 _ rfl rfl rfl qP (aa rfl ct ah) rfl rfl rfl rfl rfl ?_;rintro g7 w7 f7;have hR7:=hR2.step f7.below;have hW7:=hB2.step f7.below;have hfew:ps.length<=1000000:=by
    have h1:ps.length=(bz (l.take k) S).length:=by rw [<-hmap]; simp
    have h2:(bz (l.take k) S).length<=(l.take k).length:=List.length_filter_le _ _;have h3:(l.take k).length<=l.length:=by rw [List.length_take]; omega
    omega
   refine aK [.int .i64 e.office,.int .i64 e.low,.int .i64 e.high,.slice C e.needs.length ncap] rfl rfl uS rfl hR7.1 rfl rfl (fun j v hj=>⟨⟨g7,0,none⟩,rfl,f7.blk.fld hj⟩) (fun v hv=>by simp at hv; rcases hv with rfl|rfl|rfl|rfl<;>rfl) (by omega) (by omega) ?_;rintro rv' w8 hO8 hg8 hnew8;refine ag ?_;have hBW7:=hB.step hW7;have hn7:SL bC (kF w7 rv) w7 (.slice C e.needs.length ncap) e.needs:=(hn0.below hBW7).wider (fun q hq=>⟨by have:=hBW7.size; omega,fun e=>by have:=hR.2.2 q e; omega⟩);have hR8:RowL evT w8 60 w.heap.size rv' (ps++ [([.int .i64 e.office,.int .i64 e.low,.int .i64 e.high,.slice C e.needs.length ncap],e)]):=hR7.app hO8 hg8 hnew8 ⟨_,rfl,i1,i2,i3,hn7⟩ hBW7.size;refine aC (k+1,rv',ps++ [([.int .i64 e.office,.int .i64 e.low,.int .i64 e.high,.slice C e.needs.length ncap],e)]) ⟨by show k+1<=l.length; omega,hBW7.grown hg8 hBW7.size hR.2.2,hR8,?_⟩;show List.map Prod.snd (ps++ [_])=bz (l.take (k+1)) S;rw [List.map_append,hmap,htk];simp
  ·have hg1:gone S e=true:=by simpa using hout
   rw [hg1] at htk;refine ag ?_;refine aC (k+1,rv,ps) ⟨by show k+1<=l.length; omega,hB.step hB2,hR2,?_⟩;show ps.map (·.2)=bz (l.take (k+1)) S;rw [hmap,htk];simp
 ·refine ag ?_;have hke:k=l.length:=by omega
  subst hke;rw [List.take_length] at hmap;refine aW rfl ⟨hB,_,hR,hmap⟩
theorem oL {W:Option Addr} {nw wc:Nat} (hd:SD w dv d) (hl:SE w lv l):Gives prog 44 #[dv,lv,.slice W nw wc] w fun x w'=>Below w.heap.size w w'/\x= .bool (dec (FitW d l nw)):=by
 obtain ⟨A,cap,rfl,_⟩:=hd.form;obtain ⟨B,bcap,rfl,_⟩:=hl.form;refine gv (f:=44) ?_;refine ag ?_;refine aO (cap:= []) rfl rfl ie96.q rfl ct (aa rfl id (aa rfl id (aa rfl ct ah))) (fun _=>sV hd hl) ?_;rintro w3 c3;refine ag ?_;refine aW rfl ⟨c3,?_⟩;by_cases hf:FitW d l nw
 ·rw [ay hf,ay hf.wfe];have h1:=hf.few;have h2:=hf.worlds;simp;omega
 ·rw [az hf];by_cases hw:WfE d l
  ·rw [ay hw];have: ¬(l.length<=14/\nw<=400):=fun h=>hf ⟨h.1,h.2,hw.wd,hw.each⟩
   congr 1
   simp;omega
  ·rw [az hw];simp
theorem Kt {f:Int} (hd:SD w dv d) (hl:SE w lv l) (hS:SD w wv ws) (hsm:l.length<=1000000) (hI:Knd.OK (.at o f t)) :
  Gives prog 98 #[dv,lv,wv,.int .i64 o,.int .i64 f,.int .i64 t] w fun x w'=>Below w.heap.size w w'/\x= .bool (jg d (bU l ws) (.at o f t)):=by
 obtain ⟨A,cap,rfl,hcap⟩:=hd.form;obtain ⟨B,lcap,rfl,hlcap⟩:=hl.form;obtain ⟨X,xcap,rfl,_⟩:=hS.form;have hmax:=hS.len.2.2;refine gv (f:=98) ?_;refine ag ?_;refine aJ [0,1,2,3,4,5] (fun i:Nat=> [(13,none,.int .i64 (i:Int))])
  (fun i W=>i<=ws.length/\Below w.heap.size w W/\jg d (bU l (ws.take i)) (.at o f t)=false) (fun i=>ws.length-i) 0 ⟨ZB,ZA,rfl⟩ ?_
 rintro i W ⟨hi,hB,hno⟩;refine ag ?_;refine ai rfl (fun hlt=> ?_) (fun hge=> ?_)
 ·have hSW:=hS.below hB;obtain ⟨S,hS1,hSm⟩:=bD (l:=ws) (k:=i) (by omega);obtain ⟨ad,rfl⟩:=hSW.addr (by omega);obtain ⟨sv,hcell,hrow⟩:=hSW.row hS1;obtain ⟨C,scap,rfl,_⟩:=hrow.form;have hsub:=(jN l S).length_le;have hnext:jg d (bU l (ws.take (i+1))) (.at o f t)=(Knd.at o f t).b d (bz l S):=by
   unfold jg bU at hno ⊢;rw [ZG,hS1,List.map_append,List.any_append,hno];simp
  refine ag ?_;refine aj rfl hcell ?_;refine aA rfl (xQ (aY hl hB) hrow hsm) ?_;rintro rv w1 ⟨b1,ps,hR,hmap⟩;have hpl:ps.length=(bz l S).length:=by rw [<-hmap,List.length_map]
  refine ag ?_;refine aH [0,1,2] _ [.int .i64 o,.int .i64 f,.int .i64 t,.slice none 0 0] rfl rfl rfl (aa rfl ct (aa rfl ct (aa rfl ct ah))) (by kernel_rfl) ?_;refine ak 60 _ rfl rfl rfl qP (aa rfl ct ah) rfl rfl rfl rfl rfl ?_;rintro g2 w2 f2;have hR2:=hR.step f2.below;have hB2:=(hB.step b1).step f2.below;refine aK [.int .i64 o,.int .i64 f,.int .i64 t,.slice none 0 0] rfl rfl uS rfl hR2.1 rfl rfl (fun j v hj=>⟨⟨g2,0,none⟩,rfl,f2.blk.fld hj⟩) (fun v hv=>by simp at hv; rcases hv with rfl|rfl|rfl|rfl<;>rfl) (by omega) (by omega) ?_;rintro rv' w3 hO3 hg3 hn3;have hB3:=hB2.grown hg3 hB2.size (fun q hq=>by have:=hR2.2.2 q hq; have:=hB.size; omega);have hs3:SE w3 rv' (bz l S++ [xD o f t]):=by
   have:=hR2.appSL [([.int .i64 o,.int .i64 f,.int .i64 t,.slice none 0 0],xD o f t)] (by decide) (by show OwnS w3 _ 4 rv' (ps.length+1) _; simpa using hO3) hg3 (fun q hq=>by
    rw [List.mem_singleton] at hq;subst hq;exact ⟨_,rfl,hI.1,hI.2.1,hI.2.2,SL.nil _ _ _⟩) (by simp; omega)
   rw [hmap] at this;exact this
  refine aA rfl (Lc (aU hd hB3) hs3) ?_;rintro y w4 ⟨b4,tv,rfl⟩;have hB4:=hB3.step b4;refine ag ?_;refine aI [0,1,2,3,4,5,13,15,39] rfl ?_;refine au rfl (fun hyes=> ?_) (fun hnot=> ?_)
  ·refine ag ?_;refine aW rfl ⟨hB4,?_⟩;have h1:(Knd.at o f t).b d (bz l S)=true:=hyes
   congr 1
   exact (can_iff.2 ⟨_,List.mem_map_of_mem hSm,h1⟩).symm
  ·refine ag ?_;refine aC (i+1) ⟨by omega,hB4,?_⟩;rw [hnext];exact hnot
 ·refine ag ?_;refine aW rfl ⟨hB,?_⟩;rw [List.take_of_length_le (by omega)] at hno;rw [hno]
theorem Na {L:Li} (hd:SD w dv d) (hl:SE w lv l) (hS:SD w wv ws) (hsm:l.length<=1000000) (hI:Knd.OK (.on L t)) :
  Gives prog 102 #[dv,lv,wv,.agg (Cv L).toArray,.int .i64 t] w fun x w'=>Below w.heap.size w w'/\x= .bool (jg d (bU l ws) (.on L t)):=by
 obtain ⟨A,cap,rfl,hcap⟩:=hd.form;obtain ⟨B,lcap,rfl,hlcap⟩:=hl.form;obtain ⟨X,xcap,rfl,_⟩:=hS.form;have hmax:=hS.len.2.2;obtain ⟨i1,i2,i3,i4,i5,i6⟩:=hI;have j3:eB (t-L.trav+1):=⟨by omega,by omega⟩;have j4:eB (t-1):=⟨by omega,by omega⟩;have j5:eB (t+1):=⟨by omega,by omega⟩;have j6:eB (t+L.trav-1):=⟨by omega,by omega⟩;refine gv (f:=102) ?_;refine ag ?_;refine aG rfl rfl rfl rfl ?_;rintro g8 w0 f0;refine ag ?_;have hB0:=f0.blk;refine aJ [0,1,2,4,8] (fun i:Nat=> [(11,none,.int .i64 (i:Int))])
  (fun i W=>i<=ws.length/\Below w0.heap.size w0 W/\jg d (bU l (ws.take i)) (.on L t)=false) (fun i=>ws.length-i) 0 ⟨ZB,ZA,rfl⟩ ?_
 rintro i W ⟨hi,hB',hno⟩;have hB:=f0.below.step hB';refine ag ?_;refine aI [0,1,2,4,8,11,19] rfl ?_;refine ai rfl (fun hlt=> ?_) (fun hge=> ?_)
 ·have hSW:=hS.below hB;obtain ⟨S,hS1,hSm⟩:=bD (l:=ws) (k:=i) (by omega);obtain ⟨ad,rfl⟩:=hSW.addr (by omega);obtain ⟨sv,hcell,hrow⟩:=hSW.row hS1;obtain ⟨C,scap,rfl,_⟩:=hrow.form;have hsub:=(jN l S).length_le;have hnext:jg d (bU l (ws.take (i+1))) (.on L t)=(Knd.on L t).b d (bz l S):=by
   unfold jg bU at hno ⊢;rw [ZG,hS1,List.map_append,List.any_append,hno];simp
  refine ag ?_;refine aj rfl hcell ?_;refine aA rfl (xQ (aY hl hB) hrow hsm) ?_;rintro rv w1 ⟨b1,ps,hR,hmap⟩;have hpl:ps.length=(bz l S).length:=by rw [<-hmap,List.length_map]
  obtain ⟨R1,rc1,rfl,_⟩:=hR.1.form;have hB81:=hB0.next (hB'.step b1);refine ag ?_;refine aj rfl (hB81.fld rfl) ?_;refine ag ?_;refine aj rfl (hB81.fld rfl) ?_;refine ag ?_;refine aH [0,1,2] _ [.int .i64 L.frm,.int .i64 (t-L.trav+1),.int .i64 (t-1),.slice none 0 0] rfl rfl rfl (aa rfl ct (aa rfl ct (aa rfl ct ah))) (by kernel_rfl) ?_;refine ag ?_;refine aj rfl (hB81.fld rfl) ?_;refine ag ?_;refine aj rfl (hB81.fld rfl) ?_;refine ag ?_;refine aH [0,1,2] _ [.int .i64 L.to,.int .i64 (t+1),.int .i64 (t+L.trav-1),.slice none 0 0] rfl rfl rfl (aa rfl ct (aa rfl ct (aa rfl ct ah))) (by kernel_rfl) ?_;refine ak 60 _ rfl rfl rfl qP (aa rfl ct (aa rfl ct ah)) rfl rfl rfl rfl rfl ?_;rintro g2 w2 f2;have hR2:=hR.step f2.below;have hB2:=(hB.step b1).step f2.below;have hB2':=(hB'.step b1).step f2.below;refine aK (n:=ps.length) (m:=2) [.int .i64 L.frm,.int .i64 (t-L.trav+1),.int .i64 (t-1),.slice none 0 0,.int .i64 L.to,.int .i64 (t+1),.int .i64 (t+L.trav-1),.slice none 0 0] rfl rfl uS rfl hR2.1 rfl rfl (fun j v hj=>⟨⟨g2,0,none⟩,rfl,f2.blk.fld hj⟩) (fun v hv=>by simp at hv; rcases hv with rfl|rfl|rfl|rfl|rfl|rfl|rfl|rfl<;>rfl) (by omega) (by omega) ?_;rintro rv' w3 hO3 hg3 hn3;refine ag ?_
  have hB3:=hB2.grown hg3 hB2.size (fun q hq=>by have:=hR2.2.2 q hq; have:=hB.size; omega);have hB3':=hB2'.grown hg3 hB2'.size (fun q hq=>by have:=hR2.2.2 q hq; have:=hB'.size; omega);have hs3:SE w3 rv' (bz l S++ [vE L t,wh L t]):=by
   have:=hR2.appSL [([.int .i64 L.frm,.int .i64 (t-L.trav+1),.int .i64 (t-1),.slice none 0 0],vE L t),([.int .i64 L.to,.int .i64 (t+1),.int .i64 (t+L.trav-1),.slice none 0 0],wh L t)] (by decide) hO3 hg3 (fun q hq=>by
    simp only [List.mem_cons,List.not_mem_nil,or_false] at hq;rcases hq with rfl|rfl
    ·exact ⟨_,rfl,i1,j3,j4,SL.nil _ _ _⟩
    ·exact ⟨_,rfl,i2,j5,j6,SL.nil _ _ _⟩) (by simp; omega)
   rw [hmap] at this;exact this
  have hB83:=hB0.next hB3';refine aj rfl (hB83.fld rfl) ?_;refine aH [0,1,2] _ [.int .i64 (ps.length:Int),.int .i64 ((ps.length:Int)+1),.int .i64 L.trav] rfl rfl rfl (aa rfl ct (aa rfl ct (aa rfl ct ah))) (by kernel_rfl) ?_;refine ak 133 _ rfl rfl rfl KF (aa rfl ct ah) rfl rfl rfl rfl rfl ?_;rintro g4 w4 f4;have hB4:=hB3.step f4.below;refine aA rfl (Jp (aU hd hB4) (aY hs3 f4.below) (⟨fun j u hj=>f4.blk.fld hj⟩:LegAt w4 ⟨g4,0,none⟩ ps.length L.trav) rfl hpl.symm ⟨i3,i4⟩) ?_;rintro y w5 ⟨b5,tv,rfl⟩;have hB5:=hB4.step b5;have hB5':=(hB3'.step f4.below).step b5;refine ag ?_;refine aI [0,1,2,4,8,11,12,13,15,66] rfl ?_;refine au rfl (fun hyes=> ?_) (fun hnot=> ?_)
  ·refine ag ?_;refine aW rfl ⟨hB5,?_⟩;have h1:(Knd.on L t).b d (bz l S)=true:=hyes
   congr 1
   exact (can_iff.2 ⟨_,List.mem_map_of_mem hSm,h1⟩).symm
  ·refine ag ?_;refine aC (i+1) ⟨by omega,hB5',?_⟩;rw [hnext];exact hnot
 ·refine ag ?_;refine aW rfl ⟨hB,?_⟩;rw [List.take_of_length_le (by omega)] at hno;rw [hno]
theorem xR {v:NV} {N:Net} (hN:dI w v N) (hfN:FewN N) (hd:SD w dv d) (hl:SE w lv l) (hS:SD w wv ws) :
  Gives prog 49 #[.agg v.cells.toArray,dv,lv,wv,.int .i64 t] w fun x w'=>Below w.heap.size w w'/\SPs w' x (ig N d l ws t):=by
 have hform:=NetIn.form hN;obtain ⟨A,cap,rfl,hcap⟩:=hd.form;obtain ⟨B,lcap,rfl,hlcap⟩:=hl.form;obtain ⟨X,xcap,rfl,_⟩:=hS.form;have hv: ∃A4 c4,v.f= .slice A4 N.offs.length c4:=hform.f;have hv5: ∃A5 c5,v.l= .slice A5 N.lines.length c5:=hform.l;obtain ⟨vc,vn,vo,vf,vl,vk⟩:=v;obtain ⟨A4,c4,e4⟩:=hv;obtain ⟨A5,c5,e5⟩:=hv5;dsimp only at e4 e5;subst e4 e5;refine gv (f:=49) ?_;refine ag ?_;refine aG rfl rfl rfl rfl ?_;rintro g5 w1 f1;refine ag ?_;have hB5:=f1.blk;refine aF rfl (fun _ _ hv=>hB5.fld hv) ?_;refine aA rfl (xP (aL hN f1.below) hfN) ?_;rintro y w3 ⟨c3,rfl⟩;have b3:=f1.below.step c3;refine ag ?_;refine aO (cap:= []) rfl rfl ie44.q rfl ct (aa rfl id (aa rfl id (aa rfl id ah))) (fun _=>oL (aU hd b3) (aY hl b3)) ?_;rintro w4 c4';refine ag ?_;have b4:=b3.step c4';have b14:=c3.step c4';have hB54:=hB5.next b14;refine aj rfl (hB54.fld rfl) ?_;refine ag ?_;refine aI [0,1,2,3,4,5,10,39] rfl ?_;refine au rfl (fun hbad=> ?_) (fun hgood=> ?_)
 ·refine ag ?_;refine aW rfl ⟨b4,?_⟩;have hno: ¬PossOK N d l ws.length t:=fun h=>by
   have e1:=h.same;have e2:=h.t0;have e3:=h.t1;rw [ay h.fit,ay h.sound] at hbad;simp [e1] at hbad;omega
  unfold ig;rw [az hno];exact SL.nil _ _ _
 have hok:PossOK N d l ws.length t:=by
  by_cases hs:SoundOK keys11 N
  ·by_cases hfw:FitW d l ws.length
   ·rw [ay hfw,ay hs] at hgood;simp at hgood;exact ⟨hs,hfw,by omega,by omega,by omega⟩
   ·rw [az hfw] at hgood;simp at hgood
  ·rw [az hs] at hgood;simp at hgood
 have hsnd:=hok.sound;have hfw:=hok.fit;have hll:=hfw.few;have hkn:=Ck (N:=N) hsnd hok.t0 hok.t1;have hoff:=hsnd.cons.offs.few;have hlin:=hsnd.cons.lines.few;have q5:=f1.at_;refine ag ?_;refine aJ [1,2,3,4,5] (fun x:Nat×Value×List (List Value×qR)=> [(11,none,x.2.1),(12,none,.int .i64 (x.1:Int))])
  (fun x W=>x.1<=N.offs.length/\Below w1.heap.size w1 W/\RowL wE W 58 w1.heap.size x.2.1 x.2.2/\x.2.2.map (·.2)=(((jZ N t).take x.1).filter (fun p=>jg d (bU l ws) p.2)).map (·.1)) (fun x=>N.offs.length-x.1) (0,.slice none 0 0,[]) ⟨ZB,b14,RowL.nil _ _ _ _,rfl⟩ ?_
 rintro ⟨i,rv,ps⟩ W ⟨hi,hB',hR,hmap⟩;dsimp only at hi hB' hR hmap;have hB:=f1.below.step hB';have hB5W:=hB5.next hB';have hpl:ps.length<=1000:=by
  have e1:=congrArg List.length hmap;rw [List.length_map,List.length_map] at e1;have e2:=List.length_filter_le (fun p=>jg d (bU l ws) p.2) ((jZ N t).take i);rw [List.length_take] at e2;omega
 refine ag ?_;refine aj rfl (hB5W.fld rfl) ?_;refine ag ?_;refine ai rfl (fun hgo=> ?_) (fun hend=> ?_)
 ·dsimp only at hgo;have hat:=ym (N:=N) (t:=t) (i:=i) (by omega);obtain ⟨hKI,hs1,hs2⟩:=hkn _ (ZF hat);dsimp only at hKI hs1 hs2;have hfs:=rJ (p:=fun p:qR×Knd=>jg d (bU l ws) p.2) (f:=fun p=>p.1) hat;dsimp only at hfs;refine ag ?_;refine aA rfl (Kt (aU hd hB) (aY hl hB) (aU hS hB) (by omega) hKI) ?_;rintro y w5 ⟨c5',rfl⟩;have hR5:=hR.step c5';have hB5':=hB'.step c5';refine ag ?_;refine aI [1,2,3,4,5,11,12,53] rfl ?_;refine au rfl (fun hyes=> ?_) (fun hno=> ?_)
  ·refine ag ?_;refine aH [0,1] _ [.int .i64 (i:Int),.int .i64 (-1)] rfl rfl rfl (aa rfl ct (aa rfl ct ah)) (by kernel_rfl) ?_;refine ak 58 _ rfl rfl rfl Md (aa rfl ct ah) rfl rfl rfl rfl rfl ?_;rintro g6 w6 f6;have hR6:=hR5.step f6.below;have hB6:=hB5'.step f6.below;refine aK (zY ((i:Int),-1)) rfl rfl LY rfl hR6.1 rfl rfl (fun j v hj=>⟨⟨g6,0,none⟩,rfl,f6.blk.fld hj⟩) (fun v hv=>by simp [zY] at hv; rcases hv with rfl|rfl<;>rfl) (by omega) (by omega) ?_;rintro rv' w7 hO7 hg7 hn7;refine ag ?_;have hR7:RowL wE w7 58 w1.heap.size rv' (ps++ [(zY ((i:Int),-1),((i:Int),-1))]):=hR6.app hO7 hg7 hn7 ⟨rfl,hs1,hs2⟩ hB6.size;refine aC (i+1,rv',ps++ [(zY ((i:Int),-1),((i:Int),-1))]) ⟨by show i+1<=N.offs.length; omega,hB6.grown hg7 hB6.size hR.2.2,hR7,?_⟩;dsimp only;rw [List.map_append,hmap,hfs];simp [hyes]
  ·refine ag ?_;refine aC (i+1,rv,ps) ⟨by show i+1<=N.offs.length; omega,hB5',hR5,?_⟩;dsimp only;rw [hmap,hfs];simp [hno]
 have hie:i=N.offs.length:=by
  dsimp only at hend;omega
 subst hie;refine ag ?_;refine aJ [1,2,3,4,5] (fun x:Nat×Value×List (List Value×qR)=> [(11,none,x.2.1),(13,none,.int .i64 (x.1:Int))])
  (fun x W=>x.1<=N.lines.length/\Below w1.heap.size w1 W/\RowL wE W 58 w1.heap.size x.2.1 x.2.2/\x.2.2.map (·.2)=(((jZ N t).take (N.offs.length+x.1)).filter (fun p=>jg d (bU l ws) p.2)).map (·.1)) (fun x=>N.lines.length-x.1) (0,rv,ps) ⟨ZB,hB',hR,hmap⟩ ?_
 clear hpl;rintro ⟨i,rv,ps⟩ W ⟨hi,hB',hR,hmap⟩;dsimp only at hi hB' hR hmap;have hB:=f1.below.step hB';have hB5W:=hB5.next hB';have hpl:ps.length<=1000:=by
  have e1:=congrArg List.length hmap;rw [List.length_map,List.length_map] at e1;have e2:=List.length_filter_le (fun p=>jg d (bU l ws) p.2) ((jZ N t).take (N.offs.length+i));rw [List.length_take] at e2;omega
 refine ag ?_;refine aj rfl (hB5W.fld rfl) ?_;refine ag ?_;refine ai rfl (fun hgo=> ?_) (fun hend=> ?_)
 ·dsimp only at hgo;obtain ⟨L,hL,hLm⟩:=bD (l:=N.lines) (k:=i) (by omega);have hat:=yn (N:=N) (t:=t) hL;obtain ⟨hKI,hs1,hs2⟩:=hkn _ (ZF hat);dsimp only at hKI hs1 hs2;have hfs:=rJ (p:=fun p:qR×Knd=>jg d (bU l ws) p.2) (f:=fun p=>p.1) hat;dsimp only at hfs;have hnW:=hN.l.below hB;obtain ⟨ad,rfl⟩:=hnW.addr (by omega);obtain ⟨ad',cs,e9,hF9,hrep9,hc9⟩:=hnW.at hL;cases e9;obtain ⟨rfl,_⟩:=hrep9;refine ag ?_;refine aj rfl (hB5W.fld rfl) ?_;refine ag ?_;refine aF rfl (fun j u hj=>hc9 j u hj) ?_;refine ag ?_;refine aA rfl (Na (aU hd hB) (aY hl hB) (aU hS hB) (by omega) hKI) ?_;rintro y w5 ⟨c5',rfl⟩;have hR5:=hR.step c5';have hB5':=hB'.step c5';refine ag ?_;refine aI [1,2,3,4,5,11,13,75] rfl ?_;refine au rfl (fun hyes=> ?_) (fun hno=> ?_)
  ·refine ag ?_;refine aH [0,1] _ [.int .i64 (-1),.int .i64 (i:Int)] rfl rfl rfl (aa rfl ct (aa rfl ct ah)) (by kernel_rfl) ?_;refine ak 58 _ rfl rfl rfl Md (aa rfl ct ah) rfl rfl rfl rfl rfl ?_;rintro g6 w6 f6;have hR6:=hR5.step f6.below;have hB6:=hB5'.step f6.below;refine aK (zY (-1,(i:Int))) rfl rfl LY rfl hR6.1 rfl rfl (fun j v hj=>⟨⟨g6,0,none⟩,rfl,f6.blk.fld hj⟩) (fun v hv=>by simp [zY] at hv; rcases hv with rfl|rfl<;>rfl) (by omega) (by omega) ?_;rintro rv' w7 hO7 hg7 hn7;refine ag ?_;have hR7:RowL wE w7 58 w1.heap.size rv' (ps++ [(zY (-1,(i:Int)),(-1,(i:Int)))]):=hR6.app hO7 hg7 hn7 ⟨rfl,hs1,hs2⟩ hB6.size;refine aC (i+1,rv',ps++ [(zY (-1,(i:Int)),(-1,(i:Int)))]) ⟨by show i+1<=N.lines.length; omega,hB6.grown hg7 hB6.size hR.2.2,hR7,?_⟩;dsimp only;rw [List.map_append,hmap,<-Nat.add_assoc,hfs];simp [hyes]
  ·refine ag ?_;refine aC (i+1,rv,ps) ⟨by show i+1<=N.lines.length; omega,hB5',hR5,?_⟩;dsimp only;rw [hmap,<-Nat.add_assoc,hfs];simp [hno]
 have hie:i=N.lines.length:=by
  dsimp only at hend;omega
 subst hie;refine ag ?_;refine aW rfl ⟨hB,?_⟩;rw [wL hok];unfold lT;rw [<-pG N t,List.take_length] at hmap;rw [<-hmap];exact hR.sl (by decide)
theorem FL {f:Int} (hd:SD w dv d) (hl:SE w lv l) (hS:SD w wv ws) (hsm:l.length<=1000000) (hI:Knd.OK (.at o f t)) :
  Gives prog 46 #[dv,lv,wv,.int .i64 o,.int .i64 f,.int .i64 t] w fun x w'=>Below w.heap.size w w'/\x= .bool (fM d l ws o f t):=by
 obtain ⟨A,cap,rfl,hcap⟩:=hd.form;obtain ⟨B,lcap,rfl,hlcap⟩:=hl.form;obtain ⟨X,xcap,rfl,_⟩:=hS.form;refine gv (f:=46) ?_;refine ag ?_;refine aA rfl (oL hd hl) ?_;rintro y w1 ⟨b1,rfl⟩;refine ag ?_;refine aO (cap:= []) rfl rfl ie98.q rfl ct (aa rfl id (aa rfl id (aa rfl id (aa rfl id (aa rfl id (aa rfl id ah)))))) (fun _=>Kt (aU hd b1) (aY hl b1) (aU hS b1) hsm hI) ?_;rintro w2 c2;refine ag ?_;refine aW rfl ⟨b1.step c2,?_⟩;unfold fM
 cases dec (FitW d l ws.length) with
 | false=>rfl
 | true =>
  by_cases h0:0<=o/\o<(d.length:Int)
  ·rw [decide_eq_true h0];simp [h0.1,h0.2]
  ·rw [decide_eq_false h0];simp;intro h1 h2;exact absurd ⟨h1,h2⟩ h0
theorem Ji (hl:SE w lv l) (hS:SD w wv ws) (hsm:l.length<=1000000) :
  Gives prog 47 #[lv,wv,.int .i64 o,.int .i64 t] w fun x w'=>Below w.heap.size w w'/\x= .bool (kH l ws o t):=by
 obtain ⟨B,lcap,rfl,hlcap⟩:=hl.form;obtain ⟨X,xcap,rfl,_⟩:=hS.form;have hmax:=hS.len.2.2;refine gv (f:=47) ?_;refine ag ?_;refine aJ [0,1,2,3] (fun i:Nat=> [(9,none,.int .i64 (i:Int))])
  (fun i W=>i<=ws.length/\Below w.heap.size w W/\((ws.take i).all fun S=>(bz l S).any (dQ o t))=true) (fun i=>ws.length-i) 0 ⟨ZB,ZA,rfl⟩ ?_
 rintro i W ⟨hi,hB,hall⟩;refine ag ?_;refine ai rfl (fun hlt=> ?_) (fun hge=> ?_)
 ·have hSW:=hS.below hB;obtain ⟨S,hS1,hSm⟩:=bD (l:=ws) (k:=i) (by omega);obtain ⟨ad,rfl⟩:=hSW.addr (by omega);obtain ⟨sv,hcell,hrow⟩:=hSW.row hS1;have hsub:=(jN l S).length_le;refine ag ?_;refine aj rfl hcell ?_;refine aA rfl (Jj (aY hl hB) hrow hsm) ?_;rintro rv w1 ⟨b1,h1⟩;obtain ⟨R,rc,rfl,_⟩:=h1.form;have hB1:=hB.step b1;refine ag ?_;refine aI [0,1,2,3,9,10,11,12] rfl ?_;refine aJ [0,1,2,3,9,10] (fun j:Nat=> [(11,none,.bool (((bz l S).take j).any (dQ o t))),(12,none,.int .i64 (j:Int))])
   (fun j W'=>j<=(bz l S).length/\W'=w1) (fun j=>(bz l S).length-j) 0 ⟨ZB,rfl⟩ ?_
  rintro j W' ⟨hj,rfl⟩;refine ag ?_;refine ai rfl (fun hlt2=> ?_) (fun hge2=> ?_)
  ·obtain ⟨e,he,hem⟩:=bD (l:=bz l S) (k:=j) (by omega);obtain ⟨rd,rfl⟩:=h1.addr (by omega);obtain ⟨nv,hcells,i1,i2,i3,hn0⟩:=SE.get h1 he;refine ag ?_;refine aj rfl (hcells 0 _ rfl) ?_;refine ag ?_;refine aj rfl (hcells 2 _ rfl) ?_;refine ag ?_;refine aC (j+1) ⟨by omega,rfl⟩ (hp:= ?_);rw [ZG,he,List.any_append];have e1:([e].any (dQ o t))=(decide (e.office=o)&&decide (e.high<=t)):=by
    simp [dQ]
   show _=some ((11,none,Value.bool (((bz l S).take j).any (dQ o t)|| [e].any (dQ o t)))::_);rw [e1];rfl
  ·have hje:j=(bz l S).length:=by omega
   subst hje;rw [List.take_length];refine ag ?_;refine au rfl (fun hnot=> ?_) (fun hyes=> ?_)
   ·refine ag ?_;refine aW rfl ⟨hB1,?_⟩
    congr 1
    unfold kH;have:(ws.all fun S=>(bz l S).any (dQ o t))=false:=by
     rw [List.all_eq_false];exact ⟨S,hSm,by simpa using hnot⟩
    rw [this];simp
   ·refine ag ?_;refine aC (i+1) ⟨by omega,hB1,?_⟩;rw [ZG,hS1,List.all_append,hall];simpa using hyes
 ·refine ag ?_;refine aW rfl ⟨hB,?_⟩;rw [List.take_of_length_le (by omega)] at hall;unfold kH;rw [hall];simp
structure LightP (N:Net) (d:bA) (l:List Ev) (ws:List (List Int)):Prop where
 net:FewR N
 offs:N.offs.length<=5
 lines:N.lines.length<=10
 few:FewP d l
 ws12:ws.length<=12
 each: ∀S∈ws,S.length<=6
theorem FV {v:NV} {N:Net} (hN:dI w v N) (hd:SD w dv d) (hl:SE w lv l) (hS:SD w wv ws) :
  Gives prog 11 #[.agg v.cells.toArray,dv,lv,wv] w fun x w'=>Below w.heap.size w w'/\x= .bool (dec (LightP N d l ws)):=by
 have hform:=NetIn.form hN;obtain ⟨X,xcap,rfl,_⟩:=hS.form;have hmax:=hS.len.2.2;have hv: ∃A4 c4,v.f= .slice A4 N.offs.length c4:=hform.f;have hv5: ∃A5 c5,v.l= .slice A5 N.lines.length c5:=hform.l;obtain ⟨vc,vn,vo,vf,vl,vk⟩:=v;obtain ⟨A4,c4,e4⟩:=hv;obtain ⟨A5,c5,e5⟩:=hv5;dsimp only at e4 e5;subst e4 e5;refine gv (f:=11) ?_;refine ag ?_;refine aG rfl rfl rfl rfl ?_;rintro g4 w1 f1;refine ag ?_;have hB1:=f1.blk;refine aJ [1,2,3,4] (fun i:Nat=> [(9,none,.int .i64 (i:Int))])
  (fun i W=>i<=ws.length/\W=w1/\ ∀S∈ws.take i,S.length<=6) (fun i=>ws.length-i) 0 ⟨ZB,rfl,fun S hS=>by simp at hS⟩ ?_
 rintro i W ⟨hi,rfl,hall⟩;refine ag ?_;refine ai rfl (fun hlt=> ?_) (fun hge=> ?_)
 ·have hSW:=hS.below f1.below;obtain ⟨S,hS1,hSm⟩:=bD (l:=ws) (k:=i) (by omega);obtain ⟨ad,rfl⟩:=hSW.addr (by omega);obtain ⟨sv,hcell,hrow⟩:=hSW.row hS1;obtain ⟨C,scap,rfl,_⟩:=hrow.form;refine ag ?_;refine aj rfl hcell ?_;refine ag ?_;refine aI [1,2,3,4,9,21] rfl ?_;refine ai rfl (fun hbig=> ?_) (fun hsmall=> ?_)
  ·refine ag ?_;refine aW rfl ⟨f1.below,?_⟩;rw [az fun h=>by have:=h.each S hSm; omega]
  ·refine ag ?_;refine aC (i+1) ⟨by omega,rfl,fun T hT=> ?_⟩;rw [ZG,hS1] at hT;rcases ZH hT with hT|hT
   ·exact hall T hT
   ·simp at hT;subst hT;omega
 ·rw [List.take_of_length_le (by omega)] at hall;refine ag ?_;refine aF rfl (fun _ _ hv=>hB1.fld hv) ?_;refine aA rfl (Ld (aL hN f1.below)) ?_;rintro y w2 ⟨b2,rfl⟩;have hB2:=hB1.next b2;have b02:=f1.below.step b2;refine ag ?_;refine aj rfl (hB2.fld rfl) ?_;refine ag ?_;refine aj rfl (hB2.fld rfl) ?_;refine ag ?_;refine aO (cap:= []) rfl rfl ie35.q rfl ct (aa rfl id (aa rfl id ah)) (fun _=>FY (aU hd b02) (aY hl b02)) ?_;rintro w3 b3;refine ag ?_;refine aW rfl ⟨b02.step b3,?_⟩
  congr 1
  by_cases hL:LightP N d l ws
  ·rw [ay hL,ay hL.net,ay hL.few];have h1:=hL.offs;have h2:=hL.lines;have h3:=hL.ws12;simp;omega
  ·rw [az hL];by_cases hn:FewR N
   ·by_cases hf:FewP d l
    ·rw [ay hn,ay hf];have: ¬(N.offs.length<=5/\N.lines.length<=10/\ws.length<=12):=fun h=>hL ⟨hn,h.1,h.2.1,hf,h.2.2,hall⟩;simp;omega
    ·rw [az hf];simp
   ·rw [az hn];simp
end Go.Proofs.YtobaafdejnimkaaGreatDoor
namespace Go.Proofs.YtobaafdejnimkaaGreatDoor
open Tryz
open Go.PF Go.RowKit Go.Ord
variable {t o τ:Int}
def gq (n:UInt8):ByteArray:=⟨#[n]⟩
def OG:Of:=⟨gq 97,0,0,8,2,10,[]⟩
def OE:Of:=⟨gq 98,1,0,8,2,10,[]⟩
def liX:Li:=⟨gq 120,0,1,0,60,1⟩
def liY:Li:=⟨gq 121,1,0,0,60,1⟩
def N0:Net:=⟨[⟨0,[true,true,true,true,true,false,false],[]⟩],[gq 99],[gq 112,gq 113],[OG,OE],[liX,liY],[]⟩
def d0:bA:= [[0,60],[60,0]]
def e0:Ev:=⟨0,100,100,[0]⟩
def e1:Ev:=⟨1,150,160,[1]⟩
def gP:List Ev:= [e0]
def EL:List Ev:= [e1,e0]
theorem Db:WfD d0:=by
 have two: ∀i,i<List.length d0->i=0∨i=1:=fun i hi=>by simp [d0] at hi; omega
 refine ⟨by decide,fun i r hr=> ?_,by decide,fun i j hi hj=> ?_,fun i k j hi hk hj=> ?_⟩;rotate_left
 ·rcases two i hi with rfl|rfl<;>rcases two j hj with rfl|rfl<;>decide
 ·rcases two i hi with rfl|rfl<;>rcases two j hj with rfl|rfl<;>rcases two k hk with rfl|rfl<;>decide
 match i,hr with
 | 0,hr=>cases hr; rfl
 | 1,hr=>cases hr; rfl
 | i+2,hr=>simp [d0] at hr
theorem GZ: ∀k∈keys11,2<=k.size:=by
 intro k hk;have h:(keys11.all fun k=>decide (2<=k.size))=true:=by kernel_rfl
 exact of_decide_eq_true (List.all_eq_true.1 h k hk)
theorem Cu {n:UInt8} (h1:97<=n.toNat) (h2:n.toNat<=122):NameOK keys11 (gq n):=by
 have hsz:(gq n).size=1:=rfl;have h0:dN (gq n) 0=n.toNat:=rfl;refine ⟨by rw [hsz]; omega,by rw [hsz]; omega,by rw [h0]; exact ⟨h1,h2⟩,fun i hi=> ?_,fun hk=> ?_⟩
 ·rw [hsz] at hi;have:i=0:=by omega
  subst this;rw [h0];exact .inl ⟨h1,h2⟩
 ·have:=GZ _ hk;rw [hsz] at this;omega
theorem xq {a b:UInt8} (h:a≠b):gq a≠gq b:=fun e=>h (by have:=congrArg (fun x:ByteArray=>x.data.getD 0 0) e; exact this)
theorem JD {o:Of} (h:(o.op=0∨o.op=1)/\o.cal=0/\o.pock=8/\o.pass=2/\o.mins=10/\o.codes= []):OfOK N0 o:=by
 obtain ⟨h1,h2,h3,h4,h5,h6⟩:=h;have n1:N0.ops.length=2:=rfl;have n2:N0.cals.length=1:=rfl;exact ⟨by omega,by omega,by omega,by omega,by rw [h6]; simp,(fun c hc=>by rw [h6] at hc; cases hc),by omega,by omega,by omega,by omega,by omega,by omega⟩
theorem sound0:SoundOK keys11 N0:=by
 refine ⟨⟨rfl,⟨by decide,fun s hs=> ?_,by simp [N0],fun c hc=> ?_⟩,⟨by decide,fun s hs=> ?_,?_,fun _ _=>trivial⟩,⟨by decide,fun s hs=> ?_,?_,fun o ho=> ?_⟩,⟨by decide,fun s hs=> ?_,?_,fun l hl=> ?_⟩,⟨by decide,(fun s hs=>by cases hs),List.nodup_nil,(fun x hx=>by cases hx)⟩⟩,fun a b ha hb=> ?_⟩
 ·rw [List.mem_singleton.1 hs]; exact Cu (by decide) (by decide)
 ·rw [List.mem_singleton.1 hc];exact ⟨by decide,by decide,rfl,by decide,fun i x y hx=>by simp at hx⟩
 ·have hs:s∈ [gq 112,gq 113]:=hs;simp only [List.mem_cons,List.not_mem_nil,or_false] at hs;rcases hs with rfl|rfl<;>exact Cu (by decide) (by decide)
 ·show [gq 112,gq 113].Nodup;simp only [List.nodup_cons,List.mem_singleton,List.not_mem_nil,not_false_eq_true,List.nodup_nil,and_true];exact xq (by decide)
 ·have hs:s∈ [gq 97,gq 98]:=hs;simp only [List.mem_cons,List.not_mem_nil,or_false] at hs;rcases hs with rfl|rfl<;>exact Cu (by decide) (by decide)
 ·show [gq 97,gq 98].Nodup;simp only [List.nodup_cons,List.mem_singleton,List.not_mem_nil,not_false_eq_true,List.nodup_nil,and_true];exact xq (by decide)
 ·have ho:o∈ [OG,OE]:=ho;simp only [List.mem_cons,List.not_mem_nil,or_false] at ho;rcases ho with rfl|rfl<;>exact JD ⟨by decide,rfl,rfl,rfl,rfl,rfl⟩
 ·have hs:s∈ [gq 120,gq 121]:=hs;simp only [List.mem_cons,List.not_mem_nil,or_false] at hs;rcases hs with rfl|rfl<;>exact Cu (by decide) (by decide)
 ·show [gq 120,gq 121].Nodup;simp only [List.nodup_cons,List.mem_singleton,List.not_mem_nil,not_false_eq_true,List.nodup_nil,and_true];exact xq (by decide)
 ·have hl:l∈ [liX,liY]:=hl;simp only [List.mem_cons,List.not_mem_nil,or_false] at hl;rcases hl with rfl|rfl<;>exact ⟨by decide,by decide,by decide,by decide,by decide,by decide,by decide,by decide,by decide,by decide,by decide⟩
 ·have two: ∀i,i<N0.offs.length->i=0∨i=1:=fun i hi=>by have:N0.offs.length=2:=rfl; omega
  have hx:(0,1,60)∈eP N0:=by show (0,1,60)∈ [(0,1,(60:Int)),(1,0,60)]; simp
  have hy:(1,0,60)∈eP N0:=by show (1,0,60)∈ [(0,1,(60:Int)),(1,0,60)]; simp
  rcases two a ha with rfl|rfl<;>rcases two b hb with rfl|rfl
  ·exact .refl _
  ·exact ReachL.one hx
  ·exact ReachL.one hy
  ·exact .refl _
theorem pR {α β:Type} {f:α->β->α} {x:α}: ∀ {l:List β},(∀y∈l,f x y=x)->l.foldl f x=x
 | [],_=>rfl
 | y::l,h=>by rw [List.foldl_cons,h y (by simp)]; exact pR fun z hz=>h z (by simp [hz])
def M1:dh:=(init12.set 1 60).set 12 60
theorem Lp:gM init12 [(0,1,60),(1,0,60)]=M1:=by
 have h1:dK init12 0 1 60=init12.set 1 60:=by
  unfold dK;rw [if_pos (.inl (by decide))]
 have h2:dK (init12.set 1 60) 1 0 60=M1:=by
  unfold dK;rw [if_pos (.inl (by decide))];rfl
 show dK (dK init12 0 1 60) 1 0 60=M1;rw [h1,h2]
theorem Ee:((List.range 12).all fun o=>(List.range 12).all fun a=>(List.range 12).all fun b=> !(decide (g12 M1 a o≠ -1)&&decide (g12 M1 o b≠ -1))|| !(decide (g12 M1 a b= -1)||decide (g12 M1 a o+g12 M1 o b<g12 M1 a b)))=true:=by decide +kernel
theorem Ja {o a b:Nat} (ho:o<12) (ha:a<12) (hb:b<12):kZ o a M1 b=M1:=by
 have h:=List.all_eq_true.1 (List.all_eq_true.1 (List.all_eq_true.1 Ee o (List.mem_range.2 ho)) a (List.mem_range.2 ha)) b (List.mem_range.2 hb);unfold kZ
 split
 ·rename_i hc;unfold dK;rw [if_neg];intro hn;rw [decide_eq_true hc.1,decide_eq_true hc.2] at h;simp at h;rcases hn with hn|hn
  ·exact h.1 hn
  ·omega
 ·rfl
theorem J2:gY M1 12=M1:=by
 unfold gY;refine pR fun o ho=> ?_;unfold gW;refine pR fun a ha=> ?_;unfold iw;exact pR fun b hb=>Ja (List.mem_range.1 ho) (List.mem_range.1 ha) (List.mem_range.1 hb)
theorem Mh:vQ (fe [(0,1,60),(1,0,60)]) 2= [[0,60],[60,0]]:=by
 unfold fe;rw [Lp,J2];decide +kernel
theorem NB:vQ (fe (eP N0)) 2=d0:=Mh
theorem HY {e:Ev} (h:e.office=0∨e.office=1):EOK d0 e:=by
 have:List.length d0=2:=rfl;rcases h with h|h<;>exact ⟨by omega,by omega⟩
theorem KV {r:List Ev} (hr: ∀e∈r,e.office=0∨e.office=1) (hl:r.length<=8):WfE d0 r:=⟨Db,by omega,fun e he=>HY (hr e he)⟩
theorem JC: ∀e∈gP,e.office=0∨e.office=1:=by decide
theorem OD: ∀e∈EL,e.office=0∨e.office=1:=by decide
theorem Kw {l:List ET} (hl:l.map (·.1)=gP) (h:HoldsN d0 l):l= [(e0,100)]:=by
 obtain ⟨a,rfl⟩: ∃a,l= [a]:=by
  have hn:=congrArg List.length hl;simp [gP] at hn;exact List.length_eq_one_iff.1 hn
 simp [gP] at hl;have q1:=h.each a (by simp);obtain ⟨a1,a2⟩:=a;dsimp only at hl;subst hl;simp [e0] at q1;have h1:a2=100:=by omega
 rw [h1]
theorem Bg:HoldsN d0 [(e0,100)]:=⟨fun x hx=>by rw [List.mem_singleton.1 hx]; simp [e0],List.pairwise_singleton _ _⟩
theorem LV:HoldsN d0 [(e1,160),(e0,100)]:=⟨fun x hx=>by
 simp only [List.mem_cons,List.not_mem_nil,or_false] at hx;rcases hx with rfl|rfl<;>simp [e0,e1],by
 simp [EN,at2,d0,e0,e1]⟩
theorem Ku:Poss d0 gP:=⟨[(e0,100)],rfl,Bg⟩
theorem Pf:PV d0 gP o τ↔0<=τ/\τ<=1000000/\(NI d0 (e0,100) o τ∨NN d0 o τ (e0,100)):=by
 unfold PV;refine and_congr_right fun _=>and_congr_right fun _=> ?_;constructor
 ·rintro ⟨l,hl,h,hx⟩;rw [Kw hl h] at hx;exact hx _ (by simp)
 ·intro h1;exact ⟨[(e0,100)],rfl,Bg,fun x hx=>by rw [List.mem_singleton.1 hx]; exact h1⟩
theorem Pg {a b:Ev} {g:Int}:PossJ d0 gP a b g↔kS d0 a b g/\ ∃t,I1 a t/\I1 b (t+g)/\(EN d0 (e0,100) (a,t)∨EN d0 (b,t+g) (e0,100)):=by
 unfold PossJ;refine and_congr_right fun _=> ?_;constructor
 ·rintro ⟨l,t,hl,h,h2,h3,h4⟩;rw [Kw hl h] at h4;exact ⟨t,h2,h3,h4 _ (by simp)⟩
 ·rintro ⟨t,h2,h3,h4⟩;exact ⟨[(e0,100)],t,rfl,Bg,h2,h3,fun x hx=>by rw [List.mem_singleton.1 hx]; exact h4⟩
theorem wM {f:Int} (ho:o=0∨o=1) (h: ∃τ,f<=τ/\τ<=t/\PV d0 gP o τ):(Knd.at o f t).b d0 gP=true:=at_iff.2 ⟨KV (fun e he=>by
 rcases ZH he with he|he
 ·exact JC e he
 ·rw [List.mem_singleton.1 he]; exact ho) (by simp [gP]),h⟩
theorem GD {f:Int} (h: ¬ ∃τ,f<=τ/\τ<=t/\PV d0 gP o τ):(Knd.at o f t).b d0 gP=false:=by
 cases hq:(Knd.at o f t).b d0 gP with
 | false=>rfl
 | true=>exact absurd (at_iff.1 hq).2 h
theorem at0_iff:PV d0 gP 0 τ↔0<=τ/\τ<=1000000:=by
 rw [Pf];simp [NI,NN,at2,d0,e0];omega
theorem at1_iff:PV d0 gP 1 τ↔0<=τ/\τ<=1000000/\(τ<=40∨160<=τ):=by
 rw [Pf];simp [NI,NN,at2,d0,e0];omega
theorem onx_iff:PossJ d0 gP (vE liX t) (wh liX t) liX.trav↔ ∃τ,0<=τ/\τ+60<=1000000/\t-59<=τ/\τ<=t-1/\(100<=τ∨τ<= -20):=by
 rw [Pg];simp [kS,I1,EN,at2,d0,e0,vE,wh,liX];refine exists_congr fun τ=> ?_;omega
theorem ony_iff:PossJ d0 gP (vE liY t) (wh liY t) liY.trav↔ ∃τ,0<=τ/\τ+60<=1000000/\t-59<=τ/\τ<=t-1/\(τ<=40∨160<=τ):=by
 rw [Pg];simp [kS,I1,EN,at2,d0,e0,vE,wh,liY];refine exists_congr fun τ=> ?_;omega
theorem Gh {l:Li} (hl:l=liX∨l=liY) (h:PossJ d0 gP (vE l t) (wh l t) l.trav):(Knd.on l t).b d0 gP=true:=on_iff.2 ⟨KV (fun e he=>by
 simp only [gP,List.cons_append,List.nil_append,List.mem_cons,List.not_mem_nil,or_false] at he;rcases he with rfl|rfl|rfl<;>rcases hl with rfl|rfl<;>simp [vE,wh,liX,liY,e0]) (by simp [gP]),h⟩
theorem GC {l:Li} (h: ¬PossJ d0 gP (vE l t) (wh l t) l.trav):(Knd.on l t).b d0 gP=false:=by
 cases hq:(Knd.on l t).b d0 gP with
 | false=>rfl
 | true=>exact absurd (on_iff.1 hq).2 h
theorem fit1:FitW d0 gP 1:=⟨by decide,by decide,Db,fun e he=>HY (JC e he)⟩
theorem Nu:FitW d0 EL 1:=⟨by decide,by decide,Db,fun e he=>HY (OD e he)⟩
theorem Oy (h0:0<=t) (h1:t<=1000000):PossOK N0 d0 gP 1 t:=⟨sound0,fit1,rfl,h0,h1⟩
theorem Mq {k:Knd}:jg d0 (bU gP [[]]) k=k.b d0 gP:=by
 show ([bz gP []].any (k.b d0))=_;rw [show bz gP []=gP from rfl];simp
theorem Kv (h0:0<=t) (h1:t<=1000000):ig N0 d0 gP [[]] t=(if (Knd.at 0 t t).b d0 gP then [(0,-1)] else [])++((if (Knd.at 1 t t).b d0 gP then [(1,-1)] else [])++((if (Knd.on liX t).b d0 gP then [(-1,0)] else [])++(if (Knd.on liY t).b d0 gP then [(-1,1)] else []))):=by
 rw [wL (Oy h0 h1)];unfold lT;simp only [Mq];show (List.filter (fun p:qR×Knd=>p.2.b d0 gP) [((0,-1),.at 0 t t),((1,-1),.at 1 t t),((-1,0),.on liX t),((-1,1),.on liY t)]).map (·.1)=_;simp only [List.filter];cases (Knd.at 0 t t).b d0 gP<;>cases (Knd.at 1 t t).b d0 gP<;>cases (Knd.on liX t).b d0 gP<;>cases (Knd.on liY t).b d0 gP<;>rfl
theorem OA:ig N0 d0 gP [[]] 150= [(0,-1),(-1,0)]:=by
 rw [Kv (by decide) (by decide),wM (.inl rfl) ⟨150,by decide,by decide,at0_iff.2 ⟨by decide,by decide⟩⟩,GD (fun ⟨τ,h1,h2,h3⟩=>by have:=at1_iff.1 h3; omega),Gh (.inl rfl) (onx_iff.2 ⟨100,by decide⟩),GC (fun h=>by obtain ⟨τ,h⟩:=ony_iff.1 h; omega)];rfl
theorem Oz:ig N0 d0 gP [[]] 160= [(0,-1),(1,-1),(-1,0)]:=by
 rw [Kv (by decide) (by decide),wM (.inl rfl) ⟨160,by decide,by decide,at0_iff.2 ⟨by decide,by decide⟩⟩,wM (.inr rfl) ⟨160,by decide,by decide,at1_iff.2 ⟨by decide,by decide,by decide⟩⟩,Gh (.inl rfl) (onx_iff.2 ⟨110,by decide⟩),GC (fun h=>by obtain ⟨τ,h⟩:=ony_iff.1 h; omega)];rfl
theorem own0:iJ N0 (0,-1)=0/\iJ N0 (1,-1)=1/\iJ N0 (-1,0)=0:=by
 unfold iJ;rw [ay sound0.cons];exact ⟨rfl,rfl,rfl⟩
theorem Nr:gX N0 d0 gP [[]] 150= [0]:=by
 refine wR wY (List.pairwise_singleton _ _) fun o=> ?_;rw [hold_mem,OA];simp [own0.1,own0.2.2];omega
theorem ON:gX N0 d0 gP [[]] 160= [0,1]:=by
 refine wR wY (by simp) fun o=> ?_;rw [hold_mem,Oz];simp [own0.1,own0.2.1,own0.2.2];omega
theorem Ov:fM d0 gP [[]] 1 100 150=false:=by
 unfold fM;rw [Mq,GD (fun ⟨τ,h1,h2,h3⟩=>by have:=at1_iff.1 h3; omega),Bool.and_false]
theorem Ni:fM d0 gP [[]] 1 100 160=true:=by
 unfold fM;rw [Mq,show ([[]]:List (List Int)).length=1 from rfl,ay fit1,wM (.inr rfl) ⟨160,by decide,by decide,at1_iff.2 ⟨by decide,by decide,by decide⟩⟩];rfl
theorem Ow:fM d0 EL [[]] 1 100 160=true:=by
 unfold fM;rw [show ([[]]:List (List Int)).length=1 from rfl,ay Nu];refine Bool.and_eq_true_iff.2 ⟨rfl,can_iff.2 ⟨EL,by simp [bU]; rfl,at_iff.2 ⟨KV (by decide) (by decide),160,by decide,by decide,by decide,by decide,[(e1,160),(e0,100)],rfl,LV,fun x hx=> ?_⟩⟩⟩;simp only [List.mem_cons,List.not_mem_nil,or_false] at hx;rcases hx with rfl|rfl<;>simp [NI,NN,at2,d0,e0,e1]
theorem PC:kH gP [[]] 1 160=false:=by decide
theorem Pz:kH EL [[]] 1 160=true:=by decide
theorem M5:WfP d0 gP:=⟨Db,by decide,fun e he=>HY (JC e he),by decide⟩
theorem BZ:eO d0 gP 0= [[]]:=by
 unfold eO;rw [if_pos ⟨ay M5,by decide,by decide,by decide⟩];show ([[]]:List (List Int)).filter _=_;rw [List.filter_cons_of_pos]
 ·rfl
 ·exact ay (p:=Poss d0 (bz gP [])) Ku
theorem M7:jk d0 gP 0=0:=by
 unfold jk;rw [if_pos ⟨ay M5,by decide,by decide⟩,if_pos (by decide),if_neg (by rw [BZ]; simp)]
theorem JR:kY d0 gP:=⟨⟨Db,by decide,fun e he=>HY (JC e he)⟩,Ku⟩
end Go.Proofs.YtobaafdejnimkaaGreatDoor
namespace Go.Proofs.YtobaafdejnimkaaGreatDoor
open Tryz
open Go.PF Go.RowKit Go.Ord
attribute [local irreducible] TW CW KW DW
variable {w:World} {d:bA} {n:Nat}
theorem vwithin_c {x a b:Int}:Gives prog 94 #[.int .i64 x,.int .i64 a,.int .i64 b] w fun u w'=>w'=w/\u= .bool (decide (a<=x/\x<=b)):=by
 refine gv (f:=94) ?_;refine ag ?_;refine aW rfl ⟨rfl,by simp⟩
theorem Aa {v:Value} (hd:SD w v d) (hrows: ∀(i:Nat) (r:List Int),d[i]?=some r->RowOK d i r):Gives prog 162 #[v] w (ZJ w (.bool (dec (∀a b c,a<d.length->b<d.length->c<d.length->EM d a b c)))):=by
 obtain ⟨A,cap,rfl,hcap⟩:=hd.form;have hmax:d.length<=9223372036854775807:=hd.len.2.2;have hall: ∀i,i<d.length-> ∃r,d[i]?=some r/\r.length=d.length:=fun i hi=>⟨d[i],ZD hi,(hrows i _ (ZD hi)).len⟩;refine gv (f:=162) ?_;refine ag ?_;refine aJ [0,7] (fun i:Nat=> [(8,none,.int .i64 (i:Int))])
  (fun i W'=>i<=d.length/\Below w.heap.size w W'/\ ∀a b c,a<i->b<d.length->c<d.length->EM d a b c) (fun i=>d.length-i) 0 ⟨by omega,ZA,fun a b c ha=>by omega⟩ ?_
 rintro i W' ⟨hi,hB1,htri⟩;refine ag ?_;refine ai rfl (fun hlt1=> ?_) (fun hge1=> ?_)
 ·have hil:i<d.length:=by omega
  obtain ⟨ad,rfl⟩:=hd.addr (by omega);refine ag ?_;refine aI [0,3,7,8,12,13] rfl ?_;refine aJ [0,3,7,8,12] (fun k:Nat=> [(13,none,.int .i64 (k:Int))])
   (fun k W2=>k<=d.length/\Below w.heap.size w W2/\ ∀b c,b<k->c<d.length->EM d i b c) (fun k=>d.length-k) 0 ⟨by omega,hB1,fun b c hb=>by omega⟩ ?_
  rintro k W2 ⟨hk2,hB2,htri2⟩;refine ag ?_;refine ai rfl (fun hlt2=> ?_) (fun hge2=> ?_)
  ·have hkl:k<d.length:=by omega
   refine ag ?_;refine aJ [0,3,4,7,8,12,13,17] (fun j:Nat=> [(18,none,.int .i64 (j:Int))])
    (fun j W3=>j<=d.length/\Below w.heap.size w W3/\ ∀c,c<j->EM d i k c) (fun j=>d.length-j) 0 ⟨by omega,hB2,fun c hc=>by omega⟩ ?_
   rintro j W3 ⟨hj3,hB3,htri3⟩;refine ag ?_;refine ai rfl (fun hlt3=> ?_) (fun hge3=> ?_)
   ·have hjl:j<d.length:=by omega
    have hdW:=aU hd hB3;obtain ⟨r,hr,hrl⟩:=hall i hil;obtain ⟨rv,hcell,hrow⟩:=hdW.row hr;obtain ⟨B,rcap,rfl,_⟩:=hrow.form;obtain ⟨bd,rfl⟩:=hrow.addr (by omega);obtain ⟨x,hx⟩: ∃x,r[k]?=some x:=⟨r[k]'(by omega),ZD (by omega)⟩;have hxa:=gH hr hx;obtain ⟨r2,hr2,hr2l⟩:=hall k hkl;obtain ⟨rv2,hcell2,hrow2⟩:=hdW.row hr2;obtain ⟨B2,rcap2,rfl,_⟩:=hrow2.form;obtain ⟨bd2,rfl⟩:=hrow2.addr (by omega);have hxr:=(hrows i r hr).rng k x hx;obtain ⟨y,hy⟩: ∃y,r2[j]?=some y:=⟨r2[j]'(by omega),ZD (by omega)⟩;obtain ⟨z,hz⟩: ∃z,r[j]?=some z:=⟨r[j]'(by omega),ZD (by omega)⟩;have hya:=gH hr2 hy;have hza:=gH hr hz;have hyr:=(hrows k r2 hr2).rng j y hy;have hzr:=(hrows i r hr).rng j z hz;refine ag ?_;refine aj rfl hcell ?_;refine ag ?_;refine aj rfl (hrow.getI hx) ?_;refine ag ?_;refine aj rfl hcell2 ?_;refine ag ?_;refine aj rfl (hrow2.getI hy) ?_;refine ag ?_;refine aI [0,3,4,5,7,8,12,13,17,18,38] rfl ?_;refine au rfl (fun hskip=> ?_) (fun hgo=> ?_)
    ·refine ag ?_;refine aC (j+1) ⟨by omega,hB3,fun c hc=> ?_⟩;rcases ZI c j with h|h
     ·exact htri3 c h
     ·obtain rfl:c=j:=by omega
      intro q1 q2;rw [hxa] at q1;rw [hya] at q2;simp at hskip;omega
    have hgo':0<=x/\0<=y:=by simp at hgo; omega
    refine ag ?_;refine bg mixed (by kernel_rfl) ?_;refine aZ ?_;refine aB rfl hcell ?_;refine aZ ?_;refine aB rfl (hrow.getI hz) ?_;refine aZ ?_;refine aB rfl hcell ?_;refine aZ ?_;refine aB rfl (hrow.getI hz) ?_;refine aZ ?_;refine aB rfl hcell ?_;refine aZ ?_;refine aB rfl (hrow.getI hx) ?_;refine aZ ?_;refine aB rfl hcell2 ?_;refine aZ ?_;refine aB rfl (hrow2.getI hy) ?_;refine aZ ?_;refine bR [0,3,4,5,7,8,12,13,17,18,71] rfl fun w9 b9=> ?_;refine aD ?_;refine au rfl (fun hbad=> ?_) (fun hgood=> ?_)
    ·refine ag ?_;refine aW rfl ⟨hB3.step b9,?_⟩;rw [az];intro h;have ht:=h i k j hil hkl hjl (by rw [hxa]; omega) (by rw [hya]; omega);rw [hxa,hya,hza] at ht;simp at hbad;omega
    ·refine ag ?_;refine aC (j+1) ⟨by omega,hB3.step b9,fun c hc=> ?_⟩;rcases ZI c j with h|h
     ·exact htri3 c h
     ·obtain rfl:c=j:=by omega
      intro q1 q2;rw [hxa,hya,hza];simp at hgood;omega
   ·refine ag ?_;refine aC (k+1) ⟨by omega,hB3,fun b c hb hc=> ?_⟩;rcases ZI b k with h|h
    ·exact htri2 b c h hc
    ·obtain rfl:b=k:=by omega
     exact htri3 c (by omega)
  ·refine ag ?_;refine aC (i+1) ⟨by omega,hB2,fun a b c ha hb hc=> ?_⟩;rcases ZI a i with h|h
   ·exact htri a b c h hb hc
   ·obtain rfl:a=i:=by omega
    exact htri2 b c (by omega) hc
 ·refine ag ?_;refine aW rfl ⟨hB1,by rw [ay (fun a b c ha hb hc=>htri a b c (by omega) hb hc)]⟩
theorem wB {v:Value} (hd:SD w v d):Gives prog 93 #[v] w (ZJ w (.bool (dec (WfD d)))):=by
 obtain ⟨A,cap,rfl,hcap⟩:=hd.form;have hmax:d.length<=9223372036854775807:=hd.len.2.2;refine gv (f:=93) ?_;refine ag ?_;refine ai rfl (fun hbig=> ?_) (fun hsmall=> ?_)
 ·refine ag ?_;refine aW rfl ⟨ZA,by rw [az (fun h=>by have:=h.few; omega)]⟩
 have h12:d.length<=12:=by omega
 refine ag ?_;refine aJ [0,10,11] (fun k:Nat=> [(12,none,.int .i64 (k:Int))])
  (fun k W=>k<=d.length/\W=w/\ ∀(i:Nat) (r:List Int),i<k->d[i]?=some r->RowOK d i r) (fun k=>d.length-k) 0 ⟨by omega,rfl,fun i r hi=>by omega⟩ ?_
 rintro k W ⟨hk,rfl,hrows⟩;refine ag ?_;refine ai rfl (fun hlt=> ?_) (fun hge=> ?_)
 ·have hkl:k<d.length:=by omega
  obtain ⟨r,hr⟩: ∃r,d[k]?=some r:=⟨d[k],ZD hkl⟩;obtain ⟨ad,rfl⟩:=hd.addr (by omega);obtain ⟨rv,hcell,hrow⟩:=hd.row hr;obtain ⟨B,rcap,rfl,_⟩:=hrow.form;have hrmax:=hrow.len.2.2;refine ag ?_;refine aj rfl hcell ?_;refine ag ?_;refine aI [0,3,4,10,11,12,21] rfl ?_;refine ai rfl (fun hlen=> ?_) (fun hlen=> ?_)
  ·refine ag ?_;refine aW rfl ⟨ZA,by rw [az (fun h=>by have:=(h.rowOK hr).len; omega)]⟩
  have hle:r.length=d.length:=by omega
  refine ag ?_;refine aJ [0,3,10,11,12,22,23] (fun j:Nat=> [(24,none,.int .i64 (j:Int))])
   (fun j W'=>j<=r.length/\W'=W/\(∀(i:Nat) (y:Int),i<j->r[i]?=some y-> -1<=y/\y<=1000000)/\(k<j->r[k]?=some 0)) (fun j=>r.length-j) 0 ⟨by omega,rfl,fun i y hi=>by omega,fun h=>by omega⟩ ?_
  rintro j W' ⟨hj,rfl,hrng,hdg⟩;refine ag ?_;refine ai rfl (fun hlt2=> ?_) (fun hge2=> ?_)
  ·have hjl:j<r.length:=by omega
   obtain ⟨y,hy⟩: ∃y,r[j]?=some y:=⟨r[j],ZD hjl⟩;obtain ⟨bd,rfl⟩:=hrow.addr (by omega);refine ag ?_;refine aj rfl (hrow.getI hy) ?_;refine ag ?_;refine aA rfl (vwithin_c) ?_;rintro u w2 ⟨rfl,rfl⟩;refine ag ?_;refine aI [0,3,5,6,10,11,12,22,23,24,40] rfl ?_;refine au rfl (fun hbad=> ?_) (fun hgood=> ?_)
   ·refine ag ?_;refine aW rfl ⟨ZA,?_⟩;rw [az];intro h;have h1:=(h.rowOK hr).rng j y hy;have h2:=(h.rowOK hr).diag;simp at hbad;by_cases e:k=j
    ·subst e;rw [hy] at h2;simp at h2;omega
    ·omega
   ·refine ag ?_;have hg:(-1<=y/\y<=1000000)/\(k=j->y=0):=by
     simp at hgood;omega
    refine aC (j+1) ⟨by omega,rfl,fun i z hi hz=> ?_,fun hkj=> ?_⟩
    ·rcases ZI i j with h|h
     ·exact hrng i z h hz
     ·obtain rfl:i=j:=by omega
      rw [hy] at hz; cases hz;exact hg.1
    ·rcases ZI k j with h|h
     ·exact hdg h
     ·obtain rfl:k=j:=by omega
      rw [hy,hg.2 rfl]
  ·refine ag ?_;refine aC (k+1) ⟨by omega,rfl,fun i r' hi hr'=> ?_⟩;rcases ZI i k with h|h
   ·exact hrows i r' h hr'
   ·obtain rfl:i=k:=by omega
    rw [hr] at hr'; cases hr';exact ⟨hle,hdg (by omega),fun j y hy=>hrng j y (by have:=(ZE hy).1; omega) hy⟩
 ·have hrows': ∀(i:Nat) (r:List Int),d[i]?=some r->RowOK d i r:=fun i r hr=>hrows i r (by have:=(ZE hr).1; omega) hr;refine ag ?_;refine aA rfl (Aa hd hrows') ?_;rintro y w2 ⟨b2,rfl⟩;refine ag ?_;refine aW rfl ⟨b2,?_⟩;by_cases h: ∀a b c,a<d.length->b<d.length->c<d.length->EM d a b c
  ·rw [ay h,ay (zQ h12 hrows' h)]
  ·rw [az h,az fun hw=>h fun a b c ha hb hc=>hw.tri a b c ha hb hc]
theorem zT {dv lv:Value} {l:List Ev} {W:Option Addr} {nw wc:Nat} (hd:SD w dv d) (hl:SE w lv l) (hnw:nw<=9223372036854775807):Gives prog 37 #[dv,lv,.slice W nw wc] w fun x w'=>Below w.heap.size w w'/\x= .bool (dec (FitW d l nw)):=by
 obtain ⟨A,cap,rfl,_⟩:=hd.form;obtain ⟨B,bcap,rfl,_⟩:=hl.form;have hmax:=hl.len.2.2;have hdm:=hd.len.2.2;refine gv (f:=37) ?_;refine ag ?_;refine aO (cap:= []) rfl rfl ie93.q rfl ct (aa rfl id ah) (fun _=>wB hd) ?_;rintro w1 b1;refine ag ?_;refine aI [0,1,2,6,21] rfl ?_;refine au rfl (fun hbad=> ?_) (fun hgood=> ?_)
 ·refine ag ?_;refine aW rfl ⟨b1,?_⟩;rw [az fun h=> ?_];rw [ay h.wd] at hbad;have:=h.few;have:=h.worlds;simp at hbad;omega
 have hg:l.length<=14/\nw<=400/\WfD d:=by
  cases hq:dec (WfD d) with
  | false=>rw [hq] at hgood; simp at hgood
  | true =>
   rw [hq] at hgood;simp at hgood;exact ⟨by omega,by omega,dec_iff.1 hq⟩
 refine ag ?_;refine aJ [0,22,23] (fun k:Nat=> [(24,none,.int .i64 (k:Int))])
  (fun k W2=>k<=l.length/\Below w1.heap.size w1 W2/\ ∀e∈l.take k,EOK d e) (fun k=>l.length-k) 0 ⟨by omega,ZA,by simp⟩ ?_
 rintro k W2 ⟨hk,hB,heach⟩;have hb:=b1.step hB;refine ag ?_;refine ai rfl (fun hlt=> ?_) (fun hge=> ?_)
 ·obtain ⟨e,he,hem⟩:=bD (l:=l) (k:=k) (by omega);have hl3:=aY hl hb;obtain ⟨ad,rfl⟩:=hl3.addr (by omega);obtain ⟨nv,hcells,i1,i2,i3,hneeds⟩:=SE.get hl3 he;obtain ⟨C,ncap,rfl,_⟩:=hneeds.form;refine ag ?_;refine aF rfl (hcells) ?_;refine aM rfl nY rfl is60.q rfl rfl ?_;rintro g4 w4 f4;refine ag ?_;refine aj rfl (f4.blk.fld rfl) ?_;refine ag ?_;refine aA rfl (vwithin_c) ?_;rintro u w5 ⟨rfl,rfl⟩;refine ag ?_;refine aI [0,8,22,23,24,34] rfl ?_;refine au rfl (fun hbad2=> ?_) (fun hgood2=> ?_)
  ·refine ag ?_;refine aW rfl ⟨hb.step f4.below,?_⟩;rw [az fun h=> ?_];have h1:=h.each e hem;have:=h1.o1;have:=h1.o2;simp at hbad2;omega
  ·refine ag ?_;refine aC (k+1) ⟨by omega,hB.step f4.below,fun e' he'=> ?_⟩;rw [ZG,he] at he';rcases ZH he' with he'|he'
   ·exact heach e' he'
   ·simp at he';subst he';simp at hgood2;exact ⟨by omega,by omega⟩
 ·refine ag ?_;refine aW rfl ⟨hb,?_⟩;rw [List.take_of_length_le (by omega)] at heach;rw [ay ⟨hg.1,hg.2.1,hg.2.2,heach⟩]
theorem OFs.get {F:Nat->Prop} {ad:Addr} {cap:Nat} {l:List Of} (h:SL ofT F w (.slice (some ad) n cap) l) {i:Nat} {o:Of} (hx:l[i]?=some o) :
  ∃ v,∀j u,(NW o v)[j]?=some u->w.cell? ((ad.add ((i:Int).toNat*7)).add j)=some u:=by
 obtain ⟨ad',cs,h1,_,⟨v,rfl,_⟩,hc⟩:=h.at hx;cases h1;exact ⟨v,hc⟩
theorem LIs.get {F:Nat->Prop} {ad:Addr} {cap:Nat} {l:List Li} (h:SL liT F w (.slice (some ad) n cap) l) {i:Nat} {o:Li} (hx:l[i]?=some o) :
  ∀ j u,(Cv o)[j]?=some u->w.cell? ((ad.add ((i:Int).toNat*6)).add j)=some u:=by
 obtain ⟨ad',cs,h1,_,⟨rfl,_⟩,hc⟩:=h.at hx;cases h1;exact hc
def Ih (c:Cl):List Value:= [.string c.label,.int .i64 c.fr,.int .i64 c.to,.int .i64 c.cls,.int .i64 c.acc,.int .i64 c.due,.int .i64 c.amt]
structure ClI (c:Cl):Prop where
 f:eB c.fr
 t:eB c.to
 k:eB c.cls
 a:eB c.acc
 d:eB c.due
 m:eB c.amt
theorem jR {x a b:Int}:Gives prog 94 #[.int .i64 x,.int .i64 a,.int .i64 b] w (ZJ w (.bool (decide (a<=x/\x<=b)))):=vwithin_c.mono fun _ _ ⟨h1,h2⟩=>⟨h1 ▸ ZA,h2⟩
theorem I9 {v:NV} {N:Net} {c:Cl} (hN:dI w v N):Gives prog 38 #[.agg v.cells.toArray,.agg (Ih c).toArray] w (ZJ w (.bool (dec (ClOK N c)))):=by
 have hform:=NetIn.form hN;obtain ⟨vc,vn,vo,vf,vl,vk⟩:=v;obtain ⟨⟨A1,c1,e1⟩,⟨A2,c2,e2⟩,⟨A3,c3,e3⟩,⟨A4,c4,e4⟩,⟨A5,c5,e5⟩,⟨A6,c6,e6⟩⟩:=id hform;dsimp only at e1 e2 e3 e4 e5 e6;subst e1 e2 e3 e4 e5 e6;have hmax:=hN.f.len.2.2;have hmax5:=hN.l.len.2.2;refine gv (f:=38) ?_;refine ag ?_;refine aG rfl rfl rfl rfl ?_;rintro g2 w1 f1;refine aG rfl rfl rfl rfl ?_;rintro g3 w2 f2;refine ag ?_;have b2:=f1.below.step f2.below;have hN2:=f1.blk.next f2.below;have hC2:=f2.blk;refine aj rfl (hC2.fld (j:=1) rfl) ?_;refine ag ?_;refine aj rfl (hN2.fld (j:=3) rfl) ?_;refine ag ?_;refine aA rfl (jR) ?_;rintro y w3 ⟨b3,rfl⟩;refine ag ?_;refine aj rfl ((hC2.next b3).fld (j:=2) rfl) ?_;refine ag ?_;refine aj rfl ((hN2.next b3).fld (j:=3) rfl) ?_;refine ag ?_;refine aO (cap:= []) rfl rfl ie94.q rfl ct (aa rfl id (aa rfl ct (aa rfl id ah))) (fun _=>jR) ?_;rintro w4 b4;refine ag ?_;have b24:=b3.step b4;refine aj rfl ((hC2.next b24).fld (j:=4) rfl) ?_;refine aO (cap:= []) rfl rfl ie94.q rfl ct (aa rfl id (aa rfl ct (aa rfl ct ah))) (fun _=>jR) ?_;rintro w5 b5;refine ag ?_;have b25:=b24.step b5;refine aj rfl ((hC2.next b25).fld (j:=5) rfl) ?_;refine ag ?_;refine aj rfl ((hC2.next b25).fld (j:=4) rfl) ?_
 refine aO (cap:= []) rfl rfl ie94.q rfl ct (aa rfl id (aa rfl id (aa rfl ct ah))) (fun _=>jR) ?_;rintro w6 b6;refine ag ?_;have b26:=b25.step b6;refine aj rfl ((hC2.next b26).fld (j:=6) rfl) ?_;refine aO (cap:= []) rfl rfl ie94.q rfl ct (aa rfl id (aa rfl ct (aa rfl ct ah))) (fun _=>jR) ?_;rintro w7 b7;refine ag ?_;refine aW rfl ⟨b2.step (b26.step b7),?_⟩;by_cases h:ClOK N c
 ·rw [ay h];obtain ⟨h1,h2,h3,h4,h5,h6,h7,h8,h9⟩:=h;simp;omega
 ·rw [az h,Value.bool.injEq,Bool.eq_false_iff];intro hq;simp only [Bool.and_eq_true,decide_eq_true_eq] at hq;exact h ⟨by omega,by omega,by omega,by omega,by omega,by omega,by omega,by omega,by omega⟩
theorem Bc {i:Int} {A:Option Addr} {c:Nat}:Gives prog 66 #[.int .i64 i,.slice A n c] w (ZJ w (.bool (decide (0<=i/\i<(n:Int))))):=by
 refine gv (f:=66) ?_;refine ag ?_;refine aW rfl ⟨ZA,?_⟩;by_cases h1:0<=i<;>by_cases h2:i<(n:Int)<;>simp [h1,h2]
theorem Jy {v:NV} {N:Net} {s:qR} (ht:Tabs w) (hN:dI w v N):Gives prog 24 #[.agg v.cells.toArray,.agg (zY s).toArray] w (ZJ w (.int .i64 (iJ N s))):=by
 have hform:=NetIn.form hN;obtain ⟨vc,vn,vo,vf,vl,vk⟩:=v;obtain ⟨⟨A1,c1,e1⟩,⟨A2,c2,e2⟩,⟨A3,c3,e3⟩,⟨A4,c4,e4⟩,⟨A5,c5,e5⟩,⟨A6,c6,e6⟩⟩:=id hform;dsimp only at e1 e2 e3 e4 e5 e6;subst e1 e2 e3 e4 e5 e6;have hmax:=hN.f.len.2.2;have hmax5:=hN.l.len.2.2;refine gv (f:=24) ?_;refine ag ?_;refine aG rfl rfl rfl rfl ?_;rintro g2 w1 f1;refine aG rfl rfl rfl rfl ?_;rintro g3 w2 f2;refine ag ?_;have b2:=f1.below.step f2.below;have hV2:=f1.blk.next f2.below;have hC2:=f2.blk;have hN2:=aL hN b2;refine aF rfl (fun _ _ hv=>hV2.fld hv) ?_;refine aA rfl (wX (v:=⟨.slice A1 N.cals.length c1,.slice A2 N.names.length c2,.slice A3 N.ops.length c3,.slice A4 N.offs.length c4,.slice A5 N.lines.length c5,.slice A6 N.classes.length c6⟩) (ht.below b2) hN2) ?_;rintro y3 w3 ⟨d3,n,hR,hn,hiff⟩;obtain ⟨Y,yc,rfl⟩:=FRow.form hR;have b3:=b2.step d3;have hV3:=hV2.next d3;have hC3:=hC2.next d3;have hN3:=aL hN2 d3;refine ag ?_;refine ai rfl (fun hbad=> ?_) (fun hgood=> ?_)
 ·refine ag ?_;refine aW rfl ⟨b3,?_⟩;unfold iJ;rw [az fun h=>by have:=hiff.2 h; omega];rfl
 have hc:ConsOK keys11 N:=hiff.1 (by omega);have hown:iJ N s=if s.2= -1/\0<=s.1/\s.1<N.offs.length then (N.offs[s.1.toNat]?.map (·.op)).getD 0
   else if s.1= -1/\0<=s.2/\s.2<N.lines.length then ((N.lines[s.2.toNat]?.bind fun l=>N.offs[l.frm.toNat]?).map (·.op)).getD 0 else -1:=by
  unfold iJ;rw [ay hc,if_neg (by simp)]
 rw [hown];refine ag ?_;refine aj rfl (hC3.fld (j:=1) rfl) ?_;refine ag ?_;refine aj rfl (hC3.fld (j:=0) rfl) ?_;refine ag ?_;refine aj rfl (hV3.fld (j:=3) rfl) ?_;refine aO (cap:= []) rfl rfl ie65.q rfl ct (aa rfl id (aa rfl id ah)) (fun _=>oP) ?_;rintro w4 b4;refine ag ?_;refine aI [0,1,2,3,4,9] rfl ?_;have hV4:=hV3.next b4;have hC4:=hC3.next b4;have hN4:=aL hN3 b4;refine au rfl (fun h1=> ?_) (fun h2=> ?_)
 ·have h1':s.2= -1/\0<=s.1/\s.1<N.offs.length:=by simp at h1; omega
  rw [if_pos h1'];obtain ⟨o,ho,hom⟩:=bD (l:=N.offs) (k:=s.1.toNat) (by omega);have hf:=hN4.f;obtain ⟨ad,rfl⟩: ∃ad,A4=some ad:=hf.addr (by omega);obtain ⟨ov,hcells⟩:=OFs.get hf ho;rw [show ((s.1.toNat:Nat):Int)=s.1 by omega] at hcells;refine ag ?_;refine aj rfl (hV4.fld (j:=3) rfl) ?_;refine ag ?_;refine aj rfl (hC4.fld (j:=0) rfl) ?_;refine ag ?_;refine aj rfl (hcells 1 _ rfl) ?_;refine ag ?_;refine aW rfl ⟨b3.step b4,by rw [ho]; rfl⟩
 ·have h2': ¬(s.2= -1/\0<=s.1/\s.1<N.offs.length):=by simp at h2; omega
  rw [if_neg h2'];refine ag ?_;refine aj rfl (hC4.fld (j:=0) rfl) ?_;refine ag ?_;refine aj rfl (hC4.fld (j:=1) rfl) ?_;refine ag ?_;refine aj rfl (hV4.fld (j:=4) rfl) ?_;refine aO (cap:= []) rfl rfl ie66.q rfl ct (aa rfl id (aa rfl id ah)) (fun _=>Bc) ?_;rintro w5 b5;refine ag ?_;refine aI [0,1,2,3,4,27] rfl ?_;have hV5:=hV4.next b5;have hC5:=hC4.next b5;have hN5:=aL hN4 b5;refine au rfl (fun h3=> ?_) (fun h4=> ?_)
  ·have h3':s.1= -1/\0<=s.2/\s.2<N.lines.length:=by simp at h3; omega
   rw [if_pos h3'];obtain ⟨l,hl,hlm⟩:=bD (l:=N.lines) (k:=s.2.toNat) (by omega);have hg:=hc.lines.good l hlm;have g1:=hg.f1;have g2:=hg.f2;obtain ⟨o,ho,hom⟩:=bD (l:=N.offs) (k:=l.frm.toNat) (by omega);have hf:=hN5.f;have hll:=hN5.l;obtain ⟨ad,rfl⟩: ∃ad,A4=some ad:=hf.addr (by omega);obtain ⟨ae,rfl⟩: ∃ae,A5=some ae:=hll.addr (by omega);obtain ⟨ov,hcells⟩:=OFs.get hf ho;have hlc:=LIs.get hll hl;rw [show ((s.2.toNat:Nat):Int)=s.2 by omega] at hlc;rw [show ((l.frm.toNat:Nat):Int)=l.frm by omega] at hcells;refine cO ?_;refine bg mixed (by kernel_rfl) ?_;refine aZ ?_;refine aB rfl (hV5.fld (j:=3) rfl) ?_;refine aZ ?_;refine aB rfl (hV5.fld (j:=4) rfl) ?_;refine aZ ?_;refine aB rfl (hC5.fld (j:=1) rfl) ?_;refine aZ ?_;refine aB rfl (hlc 1 _ rfl) ?_;refine aZ ?_;refine aB rfl (hcells 1 _ rfl) ?_;refine aZ ?_;refine bR [0,1,2,3,4] rfl fun w6 b6=> ?_;refine ag ?_;refine aW rfl ⟨(b3.step b4).step (b5.step b6),?_⟩;rw [hl];dsimp only [Option.bind_some];rw [ho];rfl
  ·have h4': ¬(s.1= -1/\0<=s.2/\s.2<N.lines.length):=by simp at h4; omega
   rw [if_neg h4'];refine ag ?_;refine aW rfl ⟨(b3.step b4).step b5,rfl⟩
end Go.Proofs.YtobaafdejnimkaaGreatDoor
namespace Go.Ord
def rX (r:Nat):Bool:=decide ((r<65∨90<r)/\(r<48∨57<r)/\r≠46)
theorem othR_iff {r:Nat}:rX r=false↔okB r:=by
 unfold rX okB;rw [decide_eq_false_iff_not];omega
theorem uh {s:ByteArray} {i:Nat} (h:i<s.size):(s.get! i).toNat=fD s i:=by
 unfold fD ByteArray.get!;have h':i<s.data.size:=h;simp only [Array.getD];rw [dif_pos h',getElem!_pos s.data i h'];rfl
theorem Bq {s:ByteArray} {i:Nat} (h:fD s i<128) (hi:i<s.size):Utf8.decode s i=(fD s i,1):=by
 unfold Utf8.decode;have:(s.get! (i+0)).toNat=fD s i:=uh hi;simp only [this];rw [if_pos h]
theorem decode_high {s:ByteArray} {i:Nat} (h: ¬fD s i<128) (hi:i<s.size):128<=(Utf8.decode s i).1:=by
 unfold Utf8.decode;have:(s.get! (i+0)).toNat=fD s i:=uh hi;simp only [this];rw [if_neg h]
 split
 ·split
  ·rename_i h1 h2; simpa using h2
  ·show 128<=Utf8.runeError; decide
 ·split
  ·split
   ·rename_i h1 h2; simp at h2 ⊢; omega
   ·show 128<=Utf8.runeError; decide
  ·split
   ·split
    ·rename_i h1 h2; simp at h2 ⊢; omega
    ·show 128<=Utf8.runeError; decide
   ·show 128<=Utf8.runeError; decide
theorem CE (s:ByteArray): ∀(f pos:Nat),s.size<=pos+f->(Lib.idxFuncFrom rX true s f pos= -1↔ ∀i,pos<=i->i<s.size->okB (fD s i))
 | 0,pos,h=>by
  unfold Lib.idxFuncFrom
  exact ⟨fun _ i h1 h2=>by omega,fun _=>rfl⟩
 | f+1,pos,h=>by
  unfold Lib.idxFuncFrom;by_cases hp:pos<s.size
  ·rw [if_pos hp];by_cases hl:fD s pos<128
   ·rw [Bq hl hp];dsimp only;by_cases ho:rX (fD s pos)=true
    ·rw [if_pos ho];constructor
     ·intro h1; omega
     ·intro h1;have:=othR_iff.2 (h1 pos ZC hp);rw [this] at ho;cases ho
    ·rw [if_neg ho,CE s f (pos+1) (by omega)];have hok:okB (fD s pos):=othR_iff.1 (by simpa using ho);constructor
     ·intro h1 i h2 h3;by_cases e:i=pos
      ·subst e; exact hok
      ·exact h1 i (by omega) h3
     ·intro h1 i h2 h3;exact h1 i (by omega) h3
   ·have hh:=decode_high hl hp;have ho:rX (Utf8.decode s pos).1=true:=by
     unfold rX;exact decide_eq_true (by omega)
    rw [if_pos ho];constructor
    ·intro h1; omega
    ·intro h1;have:=h1 pos ZC hp;unfold okB at this;omega
  ·rw [if_neg hp];exact ⟨fun _ i h1 h2=>by omega,fun _=>rfl⟩
theorem JH (s:ByteArray):decide (0<=Lib.idxFunc rX true s)= !Go.PF.dec (∀i,i<s.size->okB (fD s i)):=by
 have h:=CE s s.size 0 (by omega);by_cases hq: ∀i,i<s.size->okB (fD s i)
 ·rw [Go.PF.ay hq];unfold Lib.idxFunc;rw [h.2 fun i _ hi=>hq i hi];rfl
 ·rw [Go.PF.az hq];have hne:Lib.idxFuncFrom rX true s s.size 0≠ -1:=fun e=>hq fun i hi=>h.1 e i ZB hi;rcases Lib.idxFuncFrom_range rX true s s.size 0 with h1|h1
  ·exact absurd h1 hne
  ·unfold Lib.idxFunc;rw [decide_eq_true (by omega)];rfl
end Go.Ord
namespace Go.PF
open Go.RowKit
section
variable {P:Program} {r:Option Nat} {Q:Exit->Act->World->Prop} {N:Nat} {ds:List Deferred} {ops rest:List Oper} {E:Env} {w:World} {G:Option Bool}
variable {d:Option Tmp} {ty:TypeId} {pos:String} {af:Array Edge} {gu:Option (Nat×Bool)} {ρ:Operand->Value}
theorem J4 {f:Operand} {k:FuncId} {fst cap:List Value} {xs:List Operand} {vs:List Value} {ts:Array TypeId} (he:enters P k=true) (hf:ρ f= .func (.func k) fst.toArray cap.toArray) (hv:xs.map ρ=vs) :
  (execOp ρ ⟨d,.call ⟨.value f,xs.toArray,ts⟩,ty,pos,af,gu⟩).run P w= .ok (.enter k (fst++vs++cap).toArray) w:=by
 have h1:=jX (P:=P) he;simp [execOp,resolve,hf,hv,Deferred.ofValue,Go.invoke,h1]
theorem zJ {f:Operand} {k:FuncId} {fst cap:List Value} {xs:List Operand} {vs:List Value} {ts:Array TypeId} {R:Value->World->Prop} (hg:gu=none) (hd:be N d=true) (he:enters P k=true)
  (hf:ev E f=some (none,.func (.func k) fst.toArray cap.toArray)) (hv:Args N ds E none xs vs) (hc:Gives P k (fst++vs++cap).toArray w R)
  (next: ∀v w',R v w'->TW P r Q N ds ops rest (ins E d none v) w'):TW P r Q N ds ops (⟨d,.call ⟨.value f,xs.toArray,ts⟩,ty,pos,af,gu⟩::rest) E w :=
 EA hg hd rfl (fun a ha=>J4 he (ha.eval hf trivial) (hv a ha trivial)) hc next
theorem zC {fn:Fn} {fst cap:List Operand} {us vs:List Value} (hu:fst.map ρ=us) (hv:cap.map ρ=vs):(execOp ρ ⟨d,.makeFunc fn fst.toArray cap.toArray,ty,pos,af,gu⟩).run P w= .ok (.value (.func fn us.toArray vs.toArray)) w:=by
 simp [execOp,Instr.makeFunc,hu,hv]
theorem iQ {fn:Fn} {fst cap:List Operand} {us vs:List Value} (hg:gd ops E gu=some G) (hd:be N d=true) (hu:Args N ds E G fst us) (hv:Args N ds E G cap vs)
  (next:TW P r Q N ds ops rest (ins E d G (.func fn us.toArray vs.toArray)) w):TW P r Q N ds ops (⟨d,.makeFunc fn fst.toArray cap.toArray,ty,pos,af,gu⟩::rest) E w :=
 iP hg hd rfl (fun hG a ha=>zC (hu a ha hG) (hv a ha hG)) next
theorem Iv {m n:Int} {x y:Operand} {t t':TypeId} (hn:1<=n/\n<=9223372036854775807):Val P ⟨d,.binOp .rem t x y t',ty,pos,af,gu⟩ [x,y] [.int .i64 m,.int .i64 n] True (.int .i64 (m.tmod n)) :=
 ⟨rfl,by simp [Op.operands,Call.operands],fun _ ρ w h=>by
  obtain ⟨hx,hy⟩:=jc h;simp only [execOp]; rw [hx,hy,eqGuard_rem,binOp_rem];have h0:n≠0:=by omega
  have h1:=Int.lt_tmod_of_pos m (show 0<n by omega);have h2:=Int.tmod_lt_of_pos m (show 0<n by omega);simp [Op.intDiv,h0,dO (z:=m.tmod n) (by omega)]⟩
end
def NJ (P:Program) (fv:Value) (vs:List Value) (w:World) (R:Value->World->Prop):Prop:= ∃k fst cap,fv= .func (.func k) (List.toArray fst) (List.toArray cap)/\enters P k=true/\Gives P k (fst++vs++cap).toArray w R
end Go.PF
namespace Go.Proofs.YtobaafdejnimkaaGreatDoor
open Tryz
open Go.PF Go.RowKit Go.Ord
attribute [local irreducible] TW CW KW DW
variable {w:World} {F:Nat->Prop} {v kv pv:Value} {s lab:ByteArray} {p:Pp} {g n i:Nat} {ks l:List Int} {d:Dc} {t:TypeId} {op:Int}
theorem Ng {n:Int}:(n.tmod 2147483647<0->n.tmod 2147483647+2147483647=n%2147483647)/\(¬n.tmod 2147483647<0->n.tmod 2147483647=n%2147483647):=by
 have h1:=Int.emod_nonneg n (b:=2147483647) (by decide);have h2:=Int.emod_lt_of_pos n (b:=2147483647) (by decide);have h3:=Int.emod_add_mul_ediv n 2147483647;have h4:=Int.tmod_add_mul_tdiv n 2147483647;have h5: -2147483647<n.tmod 2147483647/\n.tmod 2147483647<2147483647:=⟨by
  have:=Int.lt_tmod_of_pos n (b:=2147483647) (by decide);omega,Int.tmod_lt_of_pos n (by decide)⟩
 constructor<;>intro h<;>omega
theorem pq {x:Int} (hx:l[i]?=some x):dU (l.take (i+1))=KZ (dU (l.take i)) x:=by
 rw [ZG,hx];simp [dU]
theorem xF (h:SL bC F w v l):Gives prog 213 #[v] w fun u w'=>w'=w/\u= .int .i64 (dU l):=by
 obtain ⟨A,cap,rfl,_⟩:=h.form;have hmax:=h.len.2.2;refine gv (f:=213) ?_;refine ag ?_;refine aJ [7,8] (fun i:Nat=> [(3,none,.int .i64 (dU (l.take i))),(9,none,.int .i64 (i:Int))])
  (fun i W=>i<=l.length/\W=w) (fun i=>l.length-i) 0 ⟨ZB,rfl⟩ ?_
 rintro i W ⟨hi,rfl⟩;refine ag ?_;refine ai rfl (fun hlt=> ?_) (fun hge=> ?_)
 ·obtain ⟨x,hx,hxm⟩:=bD (l:=l) (k:=i) (by omega);obtain ⟨ad,rfl⟩:=h.addr (by omega);have hr:=jm (l.take i);have hm:= @Ng x;have hb1:=Int.emod_nonneg x (b:=2147483647) (by decide);have hb2:=Int.emod_lt_of_pos x (b:=2147483647) (by decide);refine ag ?_;refine aj rfl (h.getI hx) ?_;refine aT df rfl ⟨ct,trivial⟩ (fun _=>trivial) ?_;refine bG (aS [3,5,7,8,9] [(3,_,_),(5,_,_),(7,_,_),(8,_,_),(9,_,_)] rfl (aD ?_));refine cO (bE ?_);refine aT aX rfl ⟨ct,trivial⟩ (fun _=>trivial) ?_;refine aT (Iv (by decide)) rfl ⟨ct,ct,trivial⟩ (fun _=>trivial) ?_;refine ag ?_;refine ai rfl (fun hneg=> ?_) (fun hpos=> ?_)
  ·refine ag ?_;rw [hm.1 hneg];refine aC (i+1) ⟨by omega,rfl⟩ (hp:= ?_);rw [pq hx];rfl
  ·refine ag ?_;rw [hm.2 hpos];refine aC (i+1) ⟨by omega,rfl⟩ (hp:= ?_);rw [pq hx];rfl
 ·refine ag ?_;refine aW rfl ⟨rfl,?_⟩;rw [List.take_of_length_le (by omega)]
theorem xe (h:SL bC F w v l):Gives prog 140 #[v] w fun u w'=>w'=w/\u= .int .i64 (dU l):=by
 refine gv (f:=140) ?_;refine ag ?_;refine aA rfl (xF h) ?_;rintro y w1 ⟨rfl,rfl⟩;refine ag ?_;refine aW rfl ⟨rfl,rfl⟩
theorem vN {α:Type} {l:List α} {x z:α} (hx:l[i]?=some x) (hi:i<n):(l.take i++List.replicate (n-i) z).set i x=l.take (i+1)++List.replicate (n-(i+1)) z:=by
 have hl:=(ZE hx).1;have e:n-i=(n-(i+1))+1:=by omega
 rw [List.set_append_right _ _ (by simp; omega),e,List.replicate_succ,ZG,hx];simp [Nat.min_eq_left (Nat.le_of_lt hl)]
theorem bytes_at (h:i<s.size):((iN s).map (Value.int .i64))[i]?=some (.int .i64 ((s.data.getD i 0).toNat:Int)):=by
 unfold iN;rw [List.getElem?_map,List.getElem?_map,List.getElem?_range h];rfl
theorem vX: ∀x∈iN s,eB x:=fun x hx=>by
 obtain ⟨i,_,rfl⟩:=List.mem_map.1 hx;have:=(s.data.getD i 0).toNat_lt;unfold fD;exact ⟨by show (-9223372036854775808:Int)<=_; omega,by show _<=(9223372036854775807:Int); omega⟩
theorem iD (s:ByteArray):(iN s).length=s.size:=by simp [iN]
theorem Gx (hs:s.size<=1000000):Gives prog 217 #[.string s] w fun u w'=>Below w.heap.size w w'/\SL bC (fun k=>w.heap.size<=k/\k<w'.heap.size) w' u (iN s):=by
 refine gv (f:=217) ?_;refine ag ?_;refine bI rfl rfl (dH lF EO rfl) rfl rfl (by omega) (by omega) ?_;rintro g w1 f1;refine ag ?_;refine aI [0,2,3,9,10] rfl ?_;have hO1:OwnS w1 3 1 (.slice (some ⟨g,0,none⟩) s.size s.size) s.size ((List.replicate s.size (Value.int .i64 0))):=bu f1.blk (by simp) (by omega);have hgs:=f1.at_;refine aJ [0,3,9] (fun i:Nat=> [(10,none,.int .i64 (i:Int))])
  (fun i W=>i<=s.size/\But g w1 W/\w1.heap.size<=W.heap.size/\OwnS W 3 1 (.slice (some ⟨g,0,none⟩) s.size s.size) s.size (((iN s).map (Value.int .i64)).take i++List.replicate (s.size-i) (Value.int .i64 0))) (fun i=>s.size-i) 0 ⟨ZB,But.of_below ZA,ZC,by simpa using hO1⟩ ?_
 rintro i W ⟨hi,hB,hsz,hO⟩;refine ag ?_;refine ai rfl (fun hlt=> ?_) (fun hge=> ?_)
 ·have hib:i<s.size:=by omega
  have hbt:=(s.data.getD i 0).toNat_lt;have e1:IntKind.i64.wrap ((s.data.getD i 0).toNat:Int)=((s.data.getD i 0).toNat:Int):=dO (by omega);refine ag ?_;refine eF rfl is3.q rfl rfl hO (by simp [iD]; omega) rfl ?_;rintro w2 hO2 hb2 hs2;refine ag ?_;refine aC (i+1) ⟨by omega,hB.trans hb2,by omega,?_⟩;rw [<-vN (bytes_at hib) hib];simpa only [Nat.mul_one,Int.toNat_natCast,e1] using hO2
 ·refine ag ?_;have hie:i=s.size:=by omega
  subst hie;have hb:=But.below f1.below hB (by omega);refine aW rfl ⟨hb,?_⟩;rw [List.take_of_length_le (by simp [iD]),Nat.sub_self,List.replicate_zero,List.append_nil,<-iD s] at hO;rw [<-iD s];exact dz hO vX (fun q hq=>⟨by simp [Value.ownBlock] at hq; omega,hO.lt hq⟩) (by rw [iD]; omega)
theorem Cx (hs:s.size<=1000000):Gives prog 214 #[.string s] w (ZJ w (.int .i64 (oh s))):=by
 refine gv (f:=214) ?_;refine ag ?_;refine aA rfl (Gx hs) ?_;rintro y w1 ⟨b1,h1⟩;refine aA rfl (xF h1) ?_;rintro y w2 ⟨rfl,rfl⟩;refine ag ?_;refine aW rfl ⟨b1,rfl⟩
theorem A9 {x:Nat}:Gives prog 265 #[.int .i32 (x:Int)] w (ZJ w (.bool (rX x))):=by
 refine gv (f:=265) ?_;refine ag ?_;refine aW rfl ⟨ZA,?_⟩;unfold rX;by_cases h1:x<65<;>by_cases h2:90<x<;>by_cases h3:x<48<;>by_cases h4:57<x<;>by_cases h5:x=46<;>simp [h1,h2,h3,h4,h5]<;>omega
theorem zl:Gives prog 266 #[.string s,.func (.func 265) #[] #[]] w (ZJ w (.bool (!dec (∀i,i<s.size->okB (fD s i))))):=by
 refine Calls.mono (Tryz.strings_ContainsFunc_grows 265 #[] (fun args w=>jX ie265.q args w) rX s w fun W x _ _=>Calls.mono (A9 (w:=W) (x:=x)) ?_) ?_
 ·rintro e w' ⟨u,rfl,h1,rfl⟩;exact ⟨rfl,h1⟩
 ·rintro e w' ⟨rfl,h⟩;exact ⟨_,rfl,h,by rw [JH]⟩
theorem JP:Gives prog 255 #[.string s] w (ZJ w (.bool (dec (eT s)))):=by
 refine gv (f:=255) ?_;refine ag ?_;refine au rfl (fun hbad=> ?_) (fun hgood=> ?_)
 ·refine ag ?_;refine aW rfl ⟨ZA,?_⟩;rw [az fun h=> ?_];have h1:=h.1;have h2:=h.2.1;simp at hbad;omega
 have hs:1<=s.size/\s.size<=20:=by simp at hgood; omega
 refine ag ?_;refine aA rfl (zl) ?_;rintro y w1 ⟨c1,rfl⟩;refine ag ?_;refine aW rfl ⟨c1,?_⟩;by_cases h: ∀i,i<s.size->okB (fD s i)
 ·rw [ay h,ay ⟨hs.1,hs.2,h⟩]; rfl
 ·rw [az h,az fun h'=>h h'.2.2]; rfl
def Ou (s:ByteArray):List Value:= [.int .i64 0,.int .i64 0,.int .i64 1,.int .i64 0,.string s,.slice none 0 0]
theorem mZ {n m:Int}:Gives prog 254 #[.int .i64 n,.int .i64 m] w (ZJ w (.bool (decide (0<=n/\n<=m)))):=by
 refine gv (f:=254) ?_;refine ag ?_;refine aW rfl ⟨ZA,by simp⟩
theorem Bt:Gives prog 240 #[.agg (Ou s).toArray] w (ZJ w (.bool (dec (eT s)))):=by
 refine gv (f:=240) ?_;refine ag ?_;refine aG rfl rfl rfl rfl ?_;rintro g1 w1 f1;refine ag ?_;refine aj rfl (f1.blk.fld rfl) ?_;refine aO rfl rfl ie254.q rfl ct (aa rfl ct (aa rfl ct ah)) (fun _=>mZ) ?_;rintro w2 b2;refine ag ?_;refine aj rfl ((f1.blk.next b2).fld rfl) ?_;refine aO rfl rfl ie254.q rfl id (aa rfl id (aa rfl ct ah)) (fun _=>mZ) ?_;rintro w3 b3;refine ag ?_;refine aj rfl ((f1.blk.next (b2.step b3)).fld rfl) ?_;refine aO rfl rfl ie254.q rfl id (aa rfl id (aa rfl ct ah)) (fun _=>mZ) ?_;rintro w4 b4;refine ag ?_;refine aj rfl ((f1.blk.next ((b2.step b3).step b4)).fld rfl) ?_;refine aO (cap:= []) rfl rfl ie255.q rfl ct (aa rfl id ah) (fun _=>JP) ?_;rintro w5 b5;refine ag ?_;refine aI [0,1,2,3,28] rfl ?_;have b15:=((b2.step b3).step b4).step b5;have f5:=f1.blk.next b15;have hbel:=f1.below.step b15;refine au rfl (fun hbad=> ?_) (fun hgood=> ?_)
 ·refine ag ?_;refine aW rfl ⟨hbel,?_⟩
  cases hq:dec (eT s) with
  | false=>rfl
  | true=>rw [hq] at hbad; simp at hbad
 ·have hlab:dec (eT s)=true:=by
   cases hq:dec (eT s) with
   | true=>rfl
   | false=>rw [hq] at hgood; simp at hgood
  refine ag ?_;refine aj rfl (f5.fld rfl) ?_;refine ag ?_;refine ai rfl (fun hk1=> ?_) (fun hk1=> ?_)
  ·refine ag ?_;refine aj rfl (f5.fld rfl) ?_;refine ag ?_;refine aW rfl ⟨hbel,by rw [hlab]; rfl⟩
  ·exact absurd rfl hk1
theorem Ff:Gives prog 278 #[.int .i64 0] w (ZJ w (.string ⟨#[48]⟩)):=by
 refine gv (f:=278) ?_;refine ag ?_;refine aI [0,2,4] rfl ?_;refine ai rfl (fun h1=> ?_) (fun h2=> ?_)
 ·refine cO (bE ?_);refine aT aX rfl ⟨ct,trivial⟩ (fun _=>trivial) ?_;refine aT aX rfl ⟨ct,trivial⟩ (fun _=>trivial) ?_;refine aT nD rfl ⟨ct,ct,trivial⟩ (fun _=>by decide) ?_;refine aT BJ rfl ⟨ct,ct,ct,trivial⟩ (fun _=>by decide) ?_;refine ag ?_;refine aW rfl ⟨ZA,by rfl⟩
 ·exact absurd h2 (by decide)
theorem Ed:Gives prog 269 #[.int .i64 0,.int .i64 10] w (ZJ w (.string ⟨#[48]⟩)):=by
 refine gv (f:=269) ?_;refine ag ?_;refine ai rfl (fun h1=> ?_) (fun h2=> ?_)
 ·refine ag ?_;refine aI [0,1,4,17] rfl ?_;refine au rfl (fun h3=> ?_) (fun h4=> ?_)
  ·refine ag ?_;refine aA rfl (Ff) ?_;rintro y w1 ⟨b1,rfl⟩;refine ag ?_;refine aW rfl ⟨b1,rfl⟩
  ·exact absurd h4 (by decide)
 ·exact absurd rfl h2
theorem Ha:Gives prog 257 #[.int .i64 0] w (ZJ w (.string ⟨#[48]⟩)):=by
 refine gv (f:=257) ?_;refine ag ?_;refine aA rfl (Ed) ?_;rintro y w1 ⟨b1,rfl⟩;refine ag ?_;refine aW rfl ⟨b1,rfl⟩
theorem wW:Gives prog 241 #[.int .i64 0] w (ZJ w (.string ⟨#[48]⟩)):=by
 refine gv (f:=241) ?_;refine ag ?_;refine aA rfl (Ha) ?_;rintro y w1 ⟨b1,rfl⟩;refine ag ?_;refine aW rfl ⟨b1,rfl⟩
theorem LF {xs:List ByteArray} {sep:ByteArray} (h:OwnS w 9 1 v xs.length (xs.map Value.string)) (h0:0<xs.length) (hN:xs.length<=1000000) (hlen:(Lib.join (xs.map (·.data.toList)) sep.data.toList).length<=140737488355328) :
  Gives prog 258 #[v,.string sep] w (ZJ w (.string ⟨(Lib.join (xs.map (·.data.toList)) sep.data.toList).toArray⟩)):=by
 rcases h.2 with ⟨rfl,h1⟩|⟨g,cap,cur,rfl,hg,hh,h1,h2,h3,h4⟩
 ·omega
 ·refine Calls.mono (Tryz.strings_Join g 0 cap xs sep w (fun j x hx=> ?_) (Array.getElem?_eq_some_iff.1 hh).1 (by omega) h1 hlen) ?_
  ·rw [Nat.mul_one] at h4;have:(xs.map Value.string)[j]?=some (.string x):=by simp [hx]
   rw [<-h4,List.getElem?_take] at this
   split at this
   ·simp [World.cell?,hh];simpa using this
   ·cases this
  ·rintro e w' ⟨rfl,hb⟩;exact ⟨_,rfl,hb,rfl⟩
def zR (s:ByteArray):List ByteArray:= [⟨#[115,99,97,110]⟩,⟨#[48]⟩,⟨#[48]⟩,⟨#[48]⟩,s]
theorem Lr (hs:s.size<=1000) (h:OwnS w 9 1 v 5 ((zR s).map Value.string)) :
  Gives prog 242 #[v] w fun u w'=>Below w.heap.size w w'/\ ∃t:ByteArray,u= .string t/\t≠⟨#[]⟩:=by
 refine gv (f:=242) ?_;refine ag ?_;refine aA rfl (LF (xs:=zR s) h (by simp [zR]) (by simp [zR]) (by simp [Lib.join,zR]; omega)) ?_;rintro y w1 ⟨b1,rfl⟩;refine ag ?_;refine aW rfl ⟨b1,_,rfl,fun e=> ?_⟩;have e2:=congrArg (fun t:ByteArray=>t.data.toList) e;simp [zR,Lib.join] at e2
theorem KY:Gives prog 212 #[.agg (Ou s).toArray] w fun u w'=>Below w.heap.size w w'/\ ∃t:ByteArray,u= .string t/\(t=⟨#[]⟩↔ ¬eT s):=by
 refine gv (f:=212) ?_;refine ag ?_;refine aG rfl rfl rfl rfl ?_;rintro g1 w1 f1;refine ag ?_;refine aF rfl (fun _ _ hv=>f1.blk.fld hv) ?_;refine aA rfl (Bt) ?_;rintro y w2 ⟨b2,rfl⟩;have hB2:=f1.blk.next b2;refine ag ?_;refine au rfl (fun hbad=> ?_) (fun hgood=> ?_)
 ·refine ag ?_;refine aW rfl ⟨f1.below.step b2,_,rfl,fun _ h=> ?_,fun _=>rfl⟩;rw [ay h] at hbad;cases hbad
 have hlab:eT s:=dec_iff.1 (by simpa using hgood);have hs:=hlab.2.1;refine ag ?_;refine aj rfl (hB2.fld rfl) ?_;refine ag ?_;refine ai rfl (fun hk=> ?_) (fun hk=> ?_)
 ·exact absurd hk (by decide)
 refine ag ?_;refine bg mixed (by kernel_rfl) ?_;refine aZ ?_;refine aB rfl (hB2.fld rfl) ?_;refine fE (.ex (.string ⟨#[48]⟩)) trivial rfl (fun _ w' hb'=>wW) ?_;refine aZ ?_;refine aB rfl (hB2.fld rfl) ?_;refine fE (.ex (.string ⟨#[48]⟩)) trivial rfl (fun _ w' hb'=>wW) ?_;refine aZ ?_;refine aB rfl (hB2.fld rfl) ?_;refine fE (.ex (.string ⟨#[48]⟩)) trivial rfl (fun _ w' hb'=>wW) ?_;refine aZ ?_;refine aB rfl (hB2.fld rfl) ?_;refine nG 9 _ (fun v W=> ∃g,v= .slice (some ⟨g,0,none⟩) 5 5/\w2.heap.size<=g/\Blk W g 9 ((zR s).map Value.string)) (fun _ _ _ hb ⟨g,h1,h2,h3⟩=>⟨g,h1,h2,h3.next hb⟩) rfl rfl rfl uk (bJ rfl ct (bJ rfl ct (bJ rfl ct (bJ rfl ct (bJ rfl ct fK))))) rfl rfl rfl (fun _ vs w' hb' hs=> ?_) ?_
 ·obtain ⟨_,_,_,_,_,rfl,rfl,rfl,rfl,rfl,rfl⟩:=wz hs;exact ⟨fun v hv=>by simp at hv; rcases hv with rfl|rfl|rfl<;>rfl,fun g w'' f=>⟨g,rfl,by have:=f.at_; have:=hb'.size; omega,f.blk⟩⟩
 refine fP rfl rfl rfl ct (fun _ _ _ hb ⟨g,h1,h2,h3⟩=>⟨g,h1,h2,h3.next hb⟩) ?_;refine dD (ii [0,1,2,3] [(0,_,_),(1,_,_),(2,_,_),(3,_,_)] rfl [4] rfl fun vs w3 b3 hs3=>aD ?_);obtain ⟨v4,rfl,h4⟩:=Sats.one hs3;refine ag ?_;obtain ⟨g4,rfl,hg4,hB4⟩:=h4;have hB3:=hB2.next b3;refine aj rfl (hB3.fld rfl) ?_;refine aK (m:=0) (A:=none) [] rfl rfl Bi rfl (bu hB4 (n:=5) (sz:=1) rfl (by decide)) rfl rfl (fun j u hj=>by simp at hj) (fun u hu=>by cases hu) (by decide) (by decide) ?_;rintro v5 w5 hO5 hg5 hn5;have b5:Below w.heap.size w w5:=((f1.below.step b2).step b3).grown hg5 ((f1.below.step b2).step b3).size (fun g hg=>by simp [Value.ownBlock] at hg; have:=f1.below.size; have:=b2.size; omega);refine aA rfl (Lr (s:=s) (by omega) (by rw [List.append_nil] at hO5; exact hO5)) ?_;rintro y w6 ⟨b6,t,rfl,ht⟩;refine ag ?_;refine aW rfl ⟨b5.step b6,t,rfl,fun e=>absurd e ht,fun h=>absurd hlab h⟩
theorem tZ:Gives prog 136 #[.string s] w (ZJ w (.bool (dec (eT s)))):=by
 refine gv (f:=136) ?_;refine ag ?_;refine aH [2,4] _ (Ou s) rfl rfl rfl (aa rfl ct (aa rfl ct ah)) (by kernel_rfl) ?_;refine aA rfl (KY (s:=s)) ?_;rintro y w1 ⟨b1,t,rfl,ht⟩;refine ag ?_;refine aW rfl ⟨b1,?_⟩;by_cases h:eT s
 ·rw [ay h];have:t≠⟨#[]⟩:=fun e=>ht.1 e h;rw [uu,decide_eq_false this];rfl
 ·rw [az h];have:t=⟨#[]⟩:=ht.2 h;simp [this]
theorem nT {n m:Int}:Gives prog 137 #[.int .i64 n,.int .i64 m] w (ZJ w (.bool (decide (0<=n/\n<m)))):=by
 refine gv (f:=137) ?_;refine ag ?_;refine aW rfl ⟨ZA,by simp⟩
theorem JO {n:Int}:Gives prog 139 #[.int .i64 n] w (ZJ w (.bool (decide (iZ n)))):=by
 refine gv (f:=139) ?_;refine ag ?_;refine aA rfl (nT) ?_;rintro y w1 ⟨b1,rfl⟩;refine ag ?_;refine aW rfl ⟨b1,rfl⟩
theorem Il (h:SL bC F w v l):Gives prog 138 #[v,.func (.func 139) #[] #[]] w (ZJ w (.bool (decide (∀x∈l,iZ x)))):=by
 obtain ⟨A,cap,rfl,_⟩:=h.form;have hmax:=h.len.2.2;refine gv (f:=138) ?_;refine ag ?_;refine aJ [1,7,8] (fun i:Nat=> [(9,none,.int .i64 (i:Int))])
  (fun i W=>i<=l.length/\Below w.heap.size w W/\ ∀x∈l.take i,iZ x) (fun i=>l.length-i) 0 ⟨ZB,ZA,by simp⟩ ?_
 rintro i W ⟨hi,hB,hall⟩;refine ag ?_;refine aI [1,7,8,9,10] rfl ?_;refine ai rfl (fun hlt=> ?_) (fun hge=> ?_)
 ·obtain ⟨x,hx,hxm⟩:=bD (l:=l) (k:=i) (by omega);have hW:=h.below hB;obtain ⟨ad,rfl⟩:=hW.addr (by omega);refine ag ?_;refine aj rfl (hW.getI hx) ?_;refine ag ?_;refine bK rfl rfl ie139.q rfl (aa rfl ct ah) (JO) ?_;rintro y w2 ⟨b2,rfl⟩;refine ag ?_;refine au rfl (fun hno=> ?_) (fun hyes=> ?_)
  ·refine ag ?_;refine aW rfl ⟨hB.step b2,?_⟩;rw [decide_eq_false fun hq=> ?_];simp [hq x hxm] at hno
  ·refine ag ?_;refine aC (i+1) ⟨by omega,hB.step b2,fun y hy=> ?_⟩;rw [ZG,hx] at hy;rcases ZH hy with hy|hy
   ·exact hall y hy
   ·simp at hy;subst hy;simpa using hyes
 ·refine ag ?_;refine aW rfl ⟨hB,?_⟩;rw [List.take_of_length_le (by omega)] at hall;rw [decide_eq_true hall]
theorem Mt {l:List ByteArray} (h:SL strT F w v l):Gives prog 220 #[v,.func (.func 136) #[] #[]] w (ZJ w (.bool (dec (∀x∈l,eT x)))):=by
 obtain ⟨A,cap,rfl,_⟩:=h.form;have hmax:=h.len.2.2;refine gv (f:=220) ?_;refine ag ?_;refine aI [0,1,4,7,8,9] rfl ?_;refine aJ [1,7,8] (fun i:Nat=> [(9,none,.int .i64 (i:Int))])
  (fun i W=>i<=l.length/\Below w.heap.size w W/\ ∀x∈l.take i,eT x) (fun i=>l.length-i) 0 ⟨ZB,ZA,by simp⟩ ?_
 rintro i W ⟨hi,hB,hall⟩;refine ag ?_;refine ai rfl (fun hlt=> ?_) (fun hge=> ?_)
 ·obtain ⟨x,hx,hxm⟩:=bD (l:=l) (k:=i) (by omega);have hW:=h.below hB;obtain ⟨ad,rfl⟩:=hW.addr (by omega);refine ag ?_;refine aj rfl (hW.getT hx) ?_;refine ag ?_;refine bK rfl rfl ie136.q rfl (aa rfl ct ah) (tZ) ?_;rintro y w2 ⟨b2,rfl⟩;refine ag ?_;refine au rfl (fun hno=> ?_) (fun hyes=> ?_)
  ·refine ag ?_;refine aW rfl ⟨hB.step b2,?_⟩;rw [az fun hq=> ?_];simp [ay (hq x hxm)] at hno
  ·refine ag ?_;refine aC (i+1) ⟨by omega,hB.step b2,fun y hy=> ?_⟩;rw [ZG,hx] at hy;rcases ZH hy with hy|hy
   ·exact hall y hy
   ·simp at hy;subst hy;exact dec_iff.1 (by simpa using hyes)
 ·refine ag ?_;refine aW rfl ⟨hB,?_⟩;rw [List.take_of_length_le (by omega)] at hall;rw [ay hall]
theorem Et (h:SL bC F w v l):Gives prog 135 #[v] w (ZJ w (.bool (dec (jE l)))):=by
 obtain ⟨A,cap,rfl,_⟩:=h.form;refine gv (f:=135) ?_;refine ag ?_;refine aO (cap:= []) rfl rfl ie138.q rfl ct (aa rfl id (aa rfl ct ah)) (fun _=>Il h) ?_;rintro w1 b1;refine ag ?_;refine aW rfl ⟨b1,?_⟩;by_cases hk:jE l
 ·rw [ay hk];obtain ⟨h1,h2,h3⟩:=hk;rw [decide_eq_true h3];simp;omega
 ·rw [az hk];by_cases h3: ∀x∈l,iZ x
  ·have: ¬(1<=l.length/\l.length<=6):=fun q=>hk ⟨q.1,q.2,h3⟩;simp;omega
  ·rw [decide_eq_false h3];simp
def xA (l:List ByteArray):Prop:=1<=l.length/\l.length<=40/\ ∀x∈l,eT x
theorem vZ {l:List ByteArray} (h:SL strT F w v l):Gives prog 154 #[v] w (ZJ w (.bool (dec (xA l)))):=by
 obtain ⟨A,cap,rfl,_⟩:=h.form;refine gv (f:=154) ?_;refine ag ?_;refine aO (cap:= []) rfl rfl ie220.q rfl ct (aa rfl id (aa rfl ct ah)) (fun _=>Mt h) ?_;rintro w1 b1;refine ag ?_;refine aW rfl ⟨b1,?_⟩;by_cases hk:xA l
 ·rw [ay hk];obtain ⟨h1,h2,h3⟩:=hk;rw [ay h3];simp;omega
 ·rw [az hk];by_cases h3: ∀x∈l,eT x
  ·have: ¬(1<=l.length/\l.length<=40):=fun q=>hk ⟨q.1,q.2,h3⟩;simp;omega
  ·rw [az h3];simp
def Ej (d:Dc):List Value:= [.string d.sl,.int .i64 d.fr,.int .i64 d.to,.int .i64 d.time,.int .i64 d.cnt,.int .i64 d.root,.int .i64 d.give,.int .i64 d.take]
def uO (d:Dc) (kv:Value):List Value:=Ej d++ [kv]
def Jg (p:Pp) (kv pv:Value):List Value:=uO p.doc kv++ [.string p.label,.int .i64 p.idx,pv]
def Ak (p:Pp) (pv:Value):List Value:=Ej p.doc++ [.string p.label,.int .i64 p.idx,pv]
structure DcOK (d:Dc):Prop where
 f:eB d.fr
 t:eB d.to
 m:eB d.time
 c:eB d.cnt
 r:eB d.root
 g:eB d.give
 k:eB d.take
theorem kL (l:List Int) (h:Blk w g t (l.map (Value.int .i64))) (hn:n=l.length) (hI: ∀x∈l,eB x) (hs:l.length<=1000000):SI w (.slice (some ⟨g,0,none⟩) n n) l:=by
 subst hn;exact dz (bu h (by simp) (by omega)) hI (fun q hq=>by simp [Value.ownBlock] at hq; subst hq; exact h.lt) (by omega)
theorem CF (h:SL bC F w kv ks) (hd:DcOK d) (hsz:d.sl.size<=1000000) (h0:0<=d.fr) (h1:d.fr<ks.length) :
  Gives prog 141 #[.agg (uO d kv).toArray] w fun u w'=>Below w.heap.size w w'/\SI w' u (fB ks d):=by
 obtain ⟨A,cap,rfl,_⟩:=h.form;obtain ⟨k,hk⟩: ∃k:Nat,d.fr=k:=⟨d.fr.toNat,by omega⟩;obtain ⟨x,hx,hxm⟩:=bD (l:=ks) (k:=k) (by omega);obtain ⟨ad,rfl⟩:=h.addr (by omega);have hxI:=h.rngI hx;refine gv (f:=141) ?_;refine ag ?_;refine aG rfl rfl rfl rfl ?_;rintro g1 w1 f1;refine ag ?_;refine bg mixed (by kernel_rfl) ?_;refine aZ ?_;have hB1:=f1.blk;have h1':=h.below f1.below;have hget:=h1'.getI hx;rw [<-hk] at hget;refine aB rfl (hB1.fld rfl) ?_;refine aZ ?_;refine aB rfl (hB1.fld rfl) ?_;refine aZ ?_;refine aB rfl hget ?_;refine aZ ?_;refine aB rfl (hB1.fld rfl) ?_;refine fE (.ex (.int .i64 (oh d.sl))) trivial rfl (fun _ w' hb'=>Cx hsz) ?_;refine aZ ?_;refine aB rfl (hB1.fld rfl) ?_;refine aZ ?_;refine aB rfl (hB1.fld rfl) ?_;refine aZ ?_;refine aB rfl (hB1.fld rfl) ?_;refine aZ ?_;refine aB rfl (hB1.fld rfl) ?_;refine aZ ?_;refine aB rfl (hB1.fld rfl) ?_;refine cK 3 _ rfl rfl rfl gQ (ax rfl id (ax rfl id (ax rfl id (ax rfl id (ax rfl id (ax rfl id (ax rfl id aP))))))) rfl rfl rfl rfl rfl ?_;refine fP rfl rfl rfl ct (Lies.mono _ _ _) ?_;refine dD (ii [0,1] [(0,_,_),(1,_,_)] rfl [2] rfl fun vs w3 b3 hs3=>aD ?_);obtain ⟨v2,rfl,h2⟩:=Sats.one hs3;refine pg ?_;obtain ⟨g4,rfl,hB4⟩:=h2
 refine aW rfl ⟨f1.below.step b3,?_⟩;have e:fB ks d= [x,oh d.sl,d.fr,d.to,d.time,d.cnt,d.root]:=by
  unfold fB;rw [List.getD_eq_getElem?_getD,show d.fr.toNat=k by omega,hx];rfl
 have hl:=jm (iN d.sl);rw [e];refine kL _ hB4 rfl (fun y hy=> ?_) (by simp);simp only [List.mem_cons,List.not_mem_nil,or_false] at hy;rcases hy with rfl|rfl|rfl|rfl|rfl|rfl|rfl
 ·exact hxI
 ·exact ⟨by unfold oh; omega,by unfold oh; omega⟩
 ·exact hd.f
 ·exact hd.t
 ·exact hd.m
 ·exact hd.c
 ·exact hd.r
theorem xL (h:SL bC F w kv ks) (hd:DcOK d) (h0:0<=d.to) (h1:d.to<ks.length) :
  Gives prog 142 #[.agg (uO d kv).toArray] w fun u w'=>Below w.heap.size w w'/\SI w' u (fG ks d):=by
 obtain ⟨A,cap,rfl,_⟩:=h.form;obtain ⟨k,hk⟩: ∃k:Nat,d.to=k:=⟨d.to.toNat,by omega⟩;obtain ⟨x,hx,hxm⟩:=bD (l:=ks) (k:=k) (by omega);obtain ⟨ad,rfl⟩:=h.addr (by omega);have hxI:=h.rngI hx;refine gv (f:=142) ?_;refine ag ?_;refine aG rfl rfl rfl rfl ?_;rintro g1 w1 f1;refine ag ?_;refine aI [0,1,2] rfl ?_;refine bg mixed (by kernel_rfl) ?_;refine aZ ?_;have hB1:=f1.blk;have h1':=h.below f1.below;have hget:=h1'.getI hx;rw [<-hk] at hget;refine aB rfl (hB1.fld rfl) ?_;refine aZ ?_;refine aB rfl (hB1.fld rfl) ?_;refine aZ ?_;refine aB rfl hget ?_;refine aZ ?_;refine aB rfl (hB1.fld rfl) ?_;refine cK 3 _ rfl rfl rfl gQ (ax rfl id (ax rfl id aP)) rfl rfl rfl rfl rfl ?_;refine fP rfl rfl rfl ct (Lies.mono _ _ _) ?_;refine dD (ii [0,1] [(0,_,_),(1,_,_)] rfl [2] rfl fun vs w3 b3 hs3=>aD ?_);obtain ⟨v2,rfl,h2⟩:=Sats.one hs3;refine pg ?_;obtain ⟨g4,rfl,hB4⟩:=h2;refine aW rfl ⟨f1.below.step b3,?_⟩;have e:fG ks d= [x,d.give]:=by
  unfold fG;rw [List.getD_eq_getElem?_getD,show d.to.toNat=k by omega,hx];rfl
 rw [e];refine kL _ hB4 rfl (fun y hy=> ?_) (by simp);simp only [List.mem_cons,List.not_mem_nil,or_false] at hy;rcases hy with rfl|rfl
 ·exact hxI
 ·exact hd.g
theorem Ht (h:SL bC F w kv ks) (hd:DcOK d) (hk:DocOK ks d) :
  Gives prog 69 #[.agg (uO d kv).toArray] w (ZJ w (.bool (!dec (kX ks d)))):=by
 obtain ⟨A,cap,rfl,_⟩:=h.form;refine gv (f:=69) ?_;refine ag ?_;refine aG rfl rfl rfl rfl ?_;rintro g1 w1 f1;refine ag ?_;refine aI [0,1,2] rfl ?_;refine bg mixed (by kernel_rfl) ?_;refine aZ ?_;have hB1:=f1.blk;have h1:=h.below f1.below;refine aB rfl (hB1.fld rfl) ?_;refine dx rfl (fun _ _ hv=>hB1.fld hv) ?_;refine fE (.pr (fun u W=>SI W u (fB ks d))) ?_ rfl (fun _ w' hb'=>CF (h1.below hb') hd (by have:=hk.lab.2.1; omega) hk.f0 hk.f1) ?_
 ·exact fun _ _ _ hb h=>h.step dV hb
 refine iR (.ex (.int .i64 (dU (fB ks d)))) (trivial) rfl rfl ie140.q rfl ct (bJ rfl ct fK) (fun _ w' hb' vs hs=> ?_) ?_
 ·obtain ⟨u,rfl,hu⟩:=Sats.one hs;exact (xe (show SI w' u (fB ks d) from hu)).mono fun x w'' ⟨h1,h2⟩=>⟨h1 ▸ ZA,h2⟩
 refine aZ ?_;refine aB rfl (hB1.fld rfl) ?_;refine dx rfl (fun _ _ hv=>hB1.fld hv) ?_;refine dw (.pr (fun u W=>SI W u (fG ks d))) ?_ rfl rfl ie142.q rfl ct (ax rfl id aP) (fun _ w' hb'=>xL (h1.below hb') hd hk.t0 hk.t1) ?_
 ·exact fun _ _ _ hb h=>h.step dV hb
 refine iR (.ex (.int .i64 (dU (fG ks d)))) (trivial) rfl rfl ie140.q rfl ct (bJ rfl id fK) (fun _ w' hb' vs hs=> ?_) ?_
 ·obtain ⟨u,rfl,hu⟩:=Sats.one hs;exact (xe (show SI w' u (fG ks d) from hu)).mono fun x w'' ⟨h1,h2⟩=>⟨h1 ▸ ZA,h2⟩
 refine aZ ?_;refine bR [0,1,2] rfl fun w3 b3=> ?_;refine ag ?_;refine aW rfl ⟨f1.below.step b3,?_⟩;by_cases hs:kX ks d
 ·rw [ay hs];simp [hs.1,hs.2]
 ·rw [az hs];by_cases h1:d.give=dU (fB ks d)
  ·have h2: ¬d.take=dU (fG ks d):=fun h=>hs ⟨h1,h⟩;simp [h2]
  ·simp [h1]
theorem H8:dec (DocOK ks d)=(dec (jE ks)&&dec (eT d.sl)&&decide (0<=d.fr/\d.fr<ks.length)&&decide (0<=d.to/\d.to<ks.length)&&decide (0<=d.time/\d.time<1000001)&& !decide (d.cnt<1)&& !decide (d.cnt>40)&&decide (∀x∈ [d.root,d.give,d.take],iZ x)):=by
 by_cases h:DocOK ks d
 ·rw [ay h,ay h.keys,ay h.lab,decide_eq_true ⟨h.f0,h.f1⟩,decide_eq_true ⟨h.t0,h.t1⟩,decide_eq_true (p:=0<=d.time/\d.time<1000001) ⟨h.m0,by have:=h.m1; omega⟩,decide_eq_false (by have:=h.c0; omega),decide_eq_false (by have:=h.c1; omega),decide_eq_true (p:= ∀x∈ [d.root,d.give,d.take],iZ x)]
  ·rfl
  ·intro x hx;simp only [List.mem_cons,List.not_mem_nil,or_false] at hx;rcases hx with rfl|rfl|rfl
   ·exact h.r
   ·exact h.g
   ·exact h.k
 ·rw [az h,eq_comm,Bool.eq_false_iff];intro hq;simp only [Bool.and_eq_true,decide_eq_true_eq,Bool.not_eq_true',decide_eq_false_iff_not] at hq;obtain ⟨⟨⟨⟨⟨⟨⟨q1,q2⟩,q3⟩,q4⟩,q5⟩,q6⟩,q7⟩,q8⟩:=hq;exact h ⟨dec_iff.1 q1,dec_iff.1 q2,q3.1,q3.2,q4.1,q4.2,q5.1,by omega,by omega,by omega,q8 _ (by simp),q8 _ (by simp),q8 _ (by simp)⟩
theorem rD (h:SL bC F w kv ks) (hd:DcOK d) :
  Gives prog 68 #[.agg (uO d kv).toArray] w (ZJ w (.bool (!dec (DocOK ks d)))):=by
 obtain ⟨A,cap,rfl,_⟩:=h.form;refine gv (f:=68) ?_;refine ag ?_;refine aG rfl rfl rfl rfl ?_;rintro g1 w1 f1;refine ag ?_;refine aj rfl (f1.blk.fld rfl) ?_;refine aA rfl (Et (h.below f1.below)) ?_;rintro y w2 ⟨b2,rfl⟩;refine ag ?_;refine aj rfl ((f1.blk.next b2).fld rfl) ?_;refine aO (cap:= []) rfl rfl ie136.q rfl ct (aa rfl id ah) (fun _=>tZ) ?_;rintro w3 b3;refine ag ?_;have b13:=b2.step b3;refine aj rfl ((f1.blk.next b13).fld rfl) ?_;refine ag ?_;refine aj rfl ((f1.blk.next b13).fld rfl) ?_;refine ag ?_;refine aO (cap:= []) rfl rfl ie137.q rfl ct (aa rfl id (aa rfl id ah)) (fun _=>nT) ?_;rintro w4 b4;refine ag ?_;have b14:=b13.step b4;refine aj rfl ((f1.blk.next b14).fld rfl) ?_;refine ag ?_;refine aj rfl ((f1.blk.next b14).fld rfl) ?_;refine ag ?_;refine aO (cap:= []) rfl rfl ie137.q rfl ct (aa rfl id (aa rfl id ah)) (fun _=>nT) ?_;rintro w5 b5;refine ag ?_;have b15:=b14.step b5;refine aj rfl ((f1.blk.next b15).fld rfl) ?_;refine aO (cap:= []) rfl rfl ie137.q rfl ct (aa rfl id (aa rfl ct ah)) (fun _=>nT) ?_;rintro w6 b6;refine ag ?_;have b16:=b15.step b6;have hB6:=f1.blk.next b16;refine aj rfl (hB6.fld rfl) ?_;refine ag ?_;refine aj rfl (hB6.fld rfl) ?_;refine ag ?_;rw [H8]
 by_cases hP:(dec (jE ks)&&dec (eT d.sl)&&decide (0<=d.fr/\d.fr<ks.length)&&decide (0<=d.to/\d.to<ks.length)&&decide (0<=d.time/\d.time<1000001)&& !decide (d.cnt<1)&& !decide (d.cnt>40))=true
 ·skip
  refine bf rfl (by simpa [aV] using hP) ?_;refine aj rfl (hB6.fld rfl) ?_;refine bf rfl (by simpa [aV] using hP) ?_;refine aT kQ rfl ⟨ct,trivial⟩ (fun _=>trivial) ?_;refine bf rfl (by simpa [aV] using hP) ?_;refine ag ?_;refine bf rfl (by simpa [aV] using hP) ?_;refine aj rfl (hB6.fld rfl) ?_;refine bf rfl (by simpa [aV] using hP) ?_;refine aT kQ rfl ⟨ct,trivial⟩ (fun _=>trivial) ?_;refine bf rfl (by simpa [aV] using hP) ?_;refine ag ?_;refine bf rfl (by simpa [aV] using hP) ?_;refine aj rfl (hB6.fld rfl) ?_;refine bf rfl (by simpa [aV] using hP) ?_;refine ak 3 _ rfl rfl rfl gQ (aa rfl ct (aa rfl ct (aa rfl ct ah))) rfl rfl rfl rfl rfl ?_;rintro g7 w7 f7;refine bf rfl (by simpa [aV] using hP) ?_;have hL:SI w7 (.slice (some ⟨g7,0,none⟩) 3 3) [d.root,d.give,d.take]:=kL _ f7.blk rfl (fun y hy=>by
   simp only [List.mem_cons,List.not_mem_nil,or_false] at hy;rcases hy with rfl|rfl|rfl
   ·exact hd.r
   ·exact hd.g
   ·exact hd.k) (by simp)
  refine aA rfl (Il hL) ?_;rintro y w8 ⟨b8,rfl⟩;refine bf rfl (by simpa [aV] using hP) ?_;refine ag ?_;refine aW rfl ⟨f1.below.step ((b16.step f7.below).step b8),?_⟩;rw [hP];simp at hP ⊢;simp [hP];omega
 ·skip
  refine bT (.bool false) rfl (fun hc=>hP (by simpa [aV] using hc)) rfl ?_;refine bT (.bool false) rfl (fun hc=>hP (by simpa [aV] using hc)) rfl ?_;refine bT (.bool false) rfl (fun hc=>hP (by simpa [aV] using hc)) rfl ?_;refine bT (.bool false) rfl (fun hc=>hP (by simpa [aV] using hc)) rfl ?_;refine bT (.bool false) rfl (fun hc=>hP (by simpa [aV] using hc)) rfl ?_;refine bT (.bool false) rfl (fun hc=>hP (by simpa [aV] using hc)) rfl ?_;refine bT (.bool false) rfl (fun hc=>hP (by simpa [aV] using hc)) rfl ?_;refine bT (.bool false) rfl (fun hc=>hP (by simpa [aV] using hc)) rfl ?_;refine bT (.bool false) rfl (fun hc=>hP (by simpa [aV] using hc)) rfl ?_;refine bT (.bool false) rfl (fun hc=>hP (by simpa [aV] using hc)) rfl ?_;refine ag ?_;refine aW rfl ⟨f1.below.step b16,?_⟩;rw [Bool.not_eq_true] at hP;rw [hP];cases h1:dec (jE ks)<;>cases h2:dec (eT d.sl)<;>simp [h1,h2] at hP ⊢ <;>omega
def JA (x:Int):Bool:=decide (x< -1)||decide (x ≥ 2147483647)
theorem Ig:PredI prog w 215 [] JA:=by
 intro x W hb;refine gv (f:=215) ?_;refine ag ?_;refine aW rfl ⟨ZA,rfl⟩
theorem Ie {b:Nat} {nv:Value} {xs:List Value} (hB:Blk w g 30 [v]) (hO:OwnS w 32 1 v n xs) (hn:n<=1000) (hb:b<=g) (hvb: ∀q,v.ownBlock=some q->b<=q/\q≠g) (hl:SL bC F w nv l) (hF: ∀k,F k->k<w.heap.size/\k≠g/\v.ownBlock≠some k) :
  Gives prog 216 #[nv,.pointer (some ⟨g,0,none⟩)] w fun u w'=>w.heap.size<=w'.heap.size/\Below b w w'/\u= .int .i64 (dU l)/\ ∃v' xs',Blk w' g 30 [v']/\OwnS w' 32 1 v' (n+1) xs'/\ ∀q,v'.ownBlock=some q->b<=q/\q≠g:=by
 obtain ⟨A,cap,rfl,_⟩:=hl.form;have hglt:=hB.lt;refine gv (f:=216) ?_;refine ag ?_;refine aj rfl (hB.cell 0) ?_;refine ag ?_;refine ak 32 _ rfl rfl rfl zf (aa rfl ct ah) rfl rfl rfl rfl rfl ?_;rintro g1 w1 f1;refine aK [.slice A l.length cap] rfl rfl Eb rfl (hO.below f1.below) rfl rfl (fun j u hj=>⟨_,rfl,f1.blk.fld hj⟩) (fun u hu=>by simp at hu; subst hu; rfl) (by omega) (by omega) ?_;rintro v5 w5 hO5 hg5 hn5;have hB5:Blk w5 g 30 [v]:=Blk.keptO (hB.next f1.below) hg5 (fun e=>(hvb g e).2 rfl);have hg1:=f1.at_;have hne:v5.ownBlock≠some g:=fun e=>by
  rcases hn5 with h|h
  ·exact (hvb g (by rw [<-h]; exact e)).2 rfl
  ·rw [h] at e;cases e;have:=f1.below.size;omega
 have h1c:v5.oneCell'=true:=by
  obtain ⟨A5,c5,e5,_⟩:=hO5.form;rw [e5];rfl
 refine bi rfl is30.q rfl rfl hB5 (by show 0<1; decide) h1c ?_;rintro w6 hB6 hbut6 hs6;refine ag ?_;have hl6:SL bC F w6 (.slice A l.length cap) l:=hl.mono (bn fun k hk hlt=>by
  obtain ⟨k1,k2,k3⟩:=hF k hk;have e1:=f1.below.block k k1;have s1:=f1.below.size;have e2:=hg5.block k (by omega) (Ne.symm k3);have s2:=hg5.size;have e3:=hbut6.block k (by omega) (fun e=>k2 (by cases e; rfl));rw [e3,e2,e1])
 refine aA rfl (xF hl6) ?_;rintro y w7 ⟨rfl,rfl⟩;refine ag ?_;have s1:=f1.below.size;have s2:=hg5.size;refine aW rfl ⟨by omega,?_,rfl,v5,_,hB6,hO5.kept (fun q hq=> ?_),fun q hq=>⟨?_,fun e=>hne (by rw [<-e]; exact hq)⟩⟩
 ·refine ⟨(hbut6.os.trans hg5.os).trans f1.below.os,(hbut6.tape.trans hg5.tape).trans f1.below.tape,(hbut6.output.trans hg5.output).trans f1.below.output,by omega,fun i hi=> ?_⟩;rw [hbut6.block i (by omega) (fun e=>by cases e; omega),hg5.block i (by omega) (fun e=>by have:=(hvb i e.symm).1; omega),f1.below.block i (by omega)]
 ·exact hbut6.block q (hO5.lt hq) (fun e=>hne (by rw [hq,e]))
 ·rcases hn5 with h|h
  ·exact (hvb q (by rw [<-h]; exact hq)).1
  ·rw [h] at hq;cases hq;omega
theorem out_any:l.any JA=false↔ ∀x∈l,-1<=x/\x<2147483647:=by
 rw [List.any_eq_false];refine forall_congr' fun x=>forall_congr' fun _=> ?_;unfold JA;simp
def Lsts (w0 W:World) (g n:Nat):Prop:=w0.heap.size<=g/\ ∃v xs,Blk W g 30 [v]/\OwnS W 32 1 v n xs/\ ∀q,v.ownBlock=some q->w0.heap.size<=q/\q≠g
theorem Lsts.next {w0 W W':World} {g n:Nat} (h:Lsts w0 W g n) (hb:Below W.heap.size W W'):Lsts w0 W' g n:=by
 obtain ⟨h1,v,xs,h2,h3,h4⟩:=h;exact ⟨h1,v,xs,h2.next hb,h3.below hb,h4⟩
theorem nQ {w0 W0:World} {nv:Value} (hL:Lsts w0 W0 g n) (hb:Below W0.heap.size W0 w) (hn:n<=1000) (hl:SL bC F w nv l) (hF: ∀k,F k->W0.heap.size<=k/\k<w.heap.size) :
  Gives prog 216 #[nv,.pointer (some ⟨g,0,none⟩)] w fun u w'=>w.heap.size<=w'.heap.size/\Below w0.heap.size w w'/\u= .int .i64 (dU l)/\Lsts w0 w' g (n+1):=by
 obtain ⟨h1,v,xs,h2,h3,h4⟩:=hL;refine (Ie (h2.next hb) (h3.below hb) hn h1 h4 hl (fun k hk=> ?_)).mono ?_
 ·obtain ⟨k1,k2⟩:=hF k hk;have hg:=h2.lt;exact ⟨k2,by omega,fun e=>by have:=h3.lt e; omega⟩
 ·rintro u w' ⟨q1,q2,q3,v',xs',q4,q5,q6⟩;exact ⟨q1,q2,q3,h1,v',xs',q4,q5,q6⟩
theorem pO (l:List Int) (h:Blk w g t (l.map (Value.int .i64))) (hn:n=l.length) (hI: ∀x∈l,eB x) (hs:l.length<=1000000):SL bC (fun k=>k=g) w (.slice (some ⟨g,0,none⟩) n n) l:=by
 subst hn;exact dz (bu h (by simp) (by omega)) hI (fun q hq=>by simp [Value.ownBlock] at hq; exact hq.symm) (by omega)
theorem fF (l:List Int):eB (dU l):=by
 have:=jm l;exact ⟨by omega,by omega⟩
theorem bN {x:Int} (h: -1<=x/\x<2147483647):eB x:=⟨by omega,by omega⟩
theorem lh {a b c:Int} (ha:eB a) (hb:eB b) (hc:eB c): ∀x∈ [a,b,c],eB x:=fun x hx=>by
 simp only [List.mem_cons,List.not_mem_nil,or_false] at hx;rcases hx with rfl|rfl|rfl<;>assumption
theorem JZ {i:Int} {p:List Int} (hp:SL bC F w v p) (hs:s.size<=1000000) (hi:eB i) :
  Gives prog 143 #[.string s,.int .i64 i,v] w fun u w'=>Below w.heap.size w w'/\((ClimbOK i p/\ ∃A n c,u= .tuple #[.int .i64 (fC (cB s) i p),.slice A (n+1) c])∨(¬ClimbOK i p/\u= .tuple #[.int .i64 0,.slice none 0 0])):=by
 obtain ⟨A,cap,rfl,_⟩:=hp.form;have hmax:=hp.len.2.2;refine gv (f:=143) ?_;refine ag ?_;refine aO (cap:= []) rfl rfl ie73.q rfl ct (aa rfl id (aa rfl id ah)) (fun _=>mY hp ie215.q Ig) ?_;rintro w1 b1;refine ag ?_;refine au rfl (fun hbad=> ?_) (fun hgood=> ?_)
 ·refine ag ?_;refine jH rfl ⟨b1,.inr ⟨fun h=> ?_,rfl⟩⟩;have:=out_any.2 h.each;have h1:=h.i0;have h2:=h.few;rw [this] at hbad;simp at hbad;omega
 have hok:ClimbOK i p:=by
  cases hq:p.any JA with
  | true=>rw [hq] at hgood; simp at hgood
  | false =>
   rw [hq] at hgood;simp at hgood;exact ⟨by omega,by omega,out_any.1 hq⟩
 have hi0:=hok.i0;have hfew:=hok.few;refine ag ?_;refine dC rfl rfl MV ?_;rintro g2 w2 f2;refine ag ?_;refine aN rfl rfl (aa rfl ct ah) ?_;refine ag ?_;have hg2:=f2.at_;have hb1s:=b1.size;have hw2:=f2.size;have hL2:Lsts w w2 g2 0:=⟨by omega,.slice none 0 0,[],f2.blk,OwnS.nil _ _ _,fun q hq=>by simp [Value.ownBlock] at hq⟩;refine aA rfl (Gx hs) ?_;rintro y w3 ⟨b3,h3⟩;refine bK rfl rfl ie216.q rfl (aa rfl ct ah) (nQ hL2 b3 (by omega) h3 (fun k hk=>hk)) ?_;rintro y w4 ⟨s4,b4,rfl,hL4⟩;refine ak 3 _ rfl rfl rfl gQ (aa rfl ct (aa rfl ct ah)) rfl rfl rfl rfl rfl ?_;rintro g5 w5 f5;have hg5:=f5.at_;have hw5:=f5.size;have hl5:SL bC (fun k=>k=g5) w5 (.slice (some ⟨g5,0,none⟩) 2 2) [0,oh s]:=pO _ f5.blk rfl (fun x hx=>by
  simp only [List.mem_cons,List.not_mem_nil,or_false] at hx;rcases hx with rfl|rfl
  ·exact bN (by decide)
  ·exact fF _) (by simp)
 refine bK rfl rfl ie216.q rfl (aa rfl ct ah) (nQ hL4 f5.below (by omega) hl5 (fun k hk=>by omega)) ?_;rintro y w6 ⟨s6,b6,rfl,hL6⟩;have b06:Below w.heap.size w w6:=by
  have q1:=(b1.step f2.below).step b3;have q2:Below w.heap.size w w4:=⟨b4.os.trans q1.os,b4.tape.trans q1.tape,b4.output.trans q1.output,by have:=q1.size; omega,fun k hk=>(b4.block k hk).trans (q1.block k hk)⟩;have q3:=q2.step f5.below;exact ⟨b6.os.trans q3.os,b6.tape.trans q3.tape,b6.output.trans q3.output,by have:=q3.size; omega,fun k hk=>(b6.block k hk).trans (q3.block k hk)⟩
 refine ag ?_;refine aJ [9,10,34,35] (fun x:Nat×Int×Int=> [(1,none,.int .i64 x.2.1),(11,none,.int .i64 x.2.2),(36,none,.int .i64 (x.1:Int))])
  (fun x W=>x.1<=p.length/\Below w.heap.size w W/\0<=x.2.1/\x.2.1<=9223372036854775807/\eB x.2.2/\fC x.2.2 x.2.1 (p.drop x.1)=fC (cB s) i p/\ ∃n,n<=x.1+1/\Lsts w W g2 (n+1)) (fun x=>p.length-x.1) (0,i,cB s) ⟨ZB,b06,hi0,hi.2,fF _,rfl,1,by omega,hL6⟩ ?_
 rintro ⟨k,ix,h⟩ W ⟨hk,hbW,hx0,hx1,hhI,heq,n,hn,hLW⟩;dsimp only at hk hbW hx0 hx1 hhI heq hn;refine ag ?_;refine aI [1,9,10,11,34,35,36,37] rfl ?_;refine ai rfl (fun hlt=> ?_) (fun hge=> ?_)
 ·obtain ⟨b,hb,hbm⟩:=bD (l:=p) (k:=k) (by omega);obtain ⟨hkl,hbe⟩:=ZE hb;have hdr:p.drop k=b::p.drop (k+1):=by rw [List.drop_eq_getElem_cons hkl,hbe]
  rw [hdr] at heq;have hpW:=hp.below hbW;obtain ⟨ad,rfl⟩:=hpW.addr (by omega);have hbI:=bN (hok.each b hbm);have hq0:=Int.ediv_nonneg hx0 (show (0:Int)<=2 by decide);have hq1:=Int.ediv_le_self 2 hx0;refine ag ?_;refine aj rfl (hpW.getI hb) ?_;refine ag ?_;refine ai rfl (fun h1=> ?_) (fun h1=> ?_)
  ·refine ag ?_;refine aC (k+1,ix / 2,h) ⟨by omega,hbW,hq0,Int.le_trans hq1 hx1,hhI,?_,n,by omega,hLW⟩;rw [<-heq,fC,if_pos h1]
  ·refine ag ?_;refine aI [1,9,10,11,13,34,35,36,48] rfl ?_;refine ai rfl (fun h2=> ?_) (fun h2=> ?_)
   ·refine ag ?_;refine ak 3 _ rfl rfl rfl gQ (aa rfl ct (aa rfl ct (aa rfl ct ah))) rfl rfl rfl rfl rfl ?_;rintro g7 w7 f7;have hg7:=f7.at_;have hw7:=f7.size;refine bK rfl rfl ie216.q rfl (aa rfl ct ah) (nQ hLW f7.below (by omega) (pO [1,b,h] f7.blk rfl (lh (bN (by decide)) hbI hhI) (by simp)) (fun k hk=>by omega)) ?_;rintro y w8 ⟨s8,b8,rfl,hL8⟩;have q3:=hbW.step f7.below;have b08:Below w.heap.size w w8:=⟨b8.os.trans q3.os,b8.tape.trans q3.tape,b8.output.trans q3.output,by have:=q3.size; omega,fun k hk=>(b8.block k hk).trans (q3.block k hk)⟩;refine ag ?_;refine aC (k+1,ix / 2,dU [1,b,h]) ⟨by omega,b08,hq0,Int.le_trans hq1 hx1,fF _,?_,n+1,by omega,hL8⟩;rw [<-heq,fC,if_neg h1,if_pos h2]
   ·refine ag ?_;refine ak 3 _ rfl rfl rfl gQ (aa rfl ct (aa rfl ct (aa rfl ct ah))) rfl rfl rfl rfl rfl ?_;rintro g7 w7 f7;have hg7:=f7.at_;have hw7:=f7.size;refine bK rfl rfl ie216.q rfl (aa rfl ct ah) (nQ hLW f7.below (by omega) (pO [1,h,b] f7.blk rfl (lh (bN (by decide)) hhI hbI) (by simp)) (fun k hk=>by omega)) ?_;rintro y w8 ⟨s8,b8,rfl,hL8⟩;have q3:=hbW.step f7.below;have b08:Below w.heap.size w w8:=⟨b8.os.trans q3.os,b8.tape.trans q3.tape,b8.output.trans q3.output,by have:=q3.size; omega,fun k hk=>(b8.block k hk).trans (q3.block k hk)⟩;refine ag ?_;refine aC (k+1,ix / 2,dU [1,h,b]) ⟨by omega,b08,hq0,Int.le_trans hq1 hx1,fF _,?_,n+1,by omega,hL8⟩;rw [<-heq,fC,if_neg h1,if_neg h2]
 ·obtain ⟨_,v,xs,hB,hO,_⟩:=hLW;obtain ⟨VA,vc,rfl,_⟩:=hO.form;have hdr:p.drop k= []:=List.drop_eq_nil_of_le (by omega);rw [hdr] at heq;refine ag ?_;refine bg mixed (by kernel_rfl) ?_;refine aZ ?_;refine aB rfl (hB.cell 0) ?_;refine aZ ?_;refine bR [1,6,7,9,10,11,34,35,36] rfl fun w9 b9=> ?_;refine ag ?_;refine jH rfl ⟨hbW.step b9,.inl ⟨hok,VA,n,vc,by rw [<-heq]; rfl⟩⟩
theorem yD (h1:kv.oneCell'=true) (h2:pv.oneCell'=true) :
  Gives prog 70 #[.agg (Jg p kv pv).toArray] w (ZJ w (.bool (!dec (kR p)))):=by
 refine gv (f:=70) ?_;refine ag ?_;refine aG rfl rfl rfl rfl ?_;rintro g1 w1 f1;refine ag ?_;refine aj rfl (f1.blk.fld (j:=9) rfl) ?_;refine aA rfl (tZ) ?_;rintro y w2 ⟨b2,rfl⟩;have hB2:=f1.blk.next b2;refine ag ?_;refine aj rfl (hB2.fld (j:=10) rfl) ?_;refine ag ?_;refine aj rfl (hB2.fld (j:=4) rfl) ?_;refine aO (cap:= []) rfl rfl ie137.q rfl ct (aa rfl id (aa rfl id ah)) (fun _=>nT) ?_;rintro w3 b3;refine ag ?_;refine aW rfl ⟨f1.below.step (b2.step b3),?_⟩;by_cases hp:kR p
 ·rw [ay hp,ay hp.1];have:=hp.2;simp;omega
 ·rw [az hp];by_cases hl:eT p.label
  ·have: ¬(0<=p.idx/\p.idx<p.doc.cnt):=fun q=>hp ⟨hl,q⟩;rw [ay hl];simp;omega
  ·rw [az hl];rfl
theorem zW (h1:kv.oneCell'=true) (hp:SL bC F w pv p.path) (hs:p.label.size<=1000000) (hi:eB p.idx) :
  Gives prog 71 #[.agg (Jg p kv pv).toArray] w (ZJ w (.bool (!dec (nW p)))):=by
 obtain ⟨A,cap,rfl,_⟩:=hp.form;refine gv (f:=71) ?_;refine ag ?_;refine aG rfl rfl rfl rfl ?_;rintro g1 w1 f1;refine ag ?_;refine aj rfl (f1.blk.fld (j:=9) rfl) ?_;refine ag ?_;refine aj rfl (f1.blk.fld (j:=10) rfl) ?_;refine ag ?_;refine aj rfl (f1.blk.fld (j:=11) rfl) ?_;refine aA rfl (JZ (hp.below f1.below) hs hi) ?_;rintro y w2 ⟨b2,hres⟩;have hB2:=f1.blk.next b2;rcases hres with ⟨hok,VA,n,c,rfl⟩|⟨hno,rfl⟩
 ·skip
  refine ag ?_;refine aj rfl (hB2.fld (j:=5) rfl) ?_;refine ag ?_;refine aW rfl ⟨f1.below.step b2,?_⟩;by_cases hr:fC (cB p.label) p.idx p.path=p.doc.root
  ·rw [ay ⟨hok,hr⟩];simp [hr];omega
  ·rw [az fun h=>hr h.2];simp [hr]
 ·skip
  refine aT aX rfl ⟨ct,trivial⟩ (fun _=>trivial) ?_;refine aT jO rfl ⟨ct,trivial⟩ (fun _=>rfl) ?_;refine aT jO rfl ⟨ct,trivial⟩ (fun _=>rfl) ?_;refine aT df rfl ⟨ct,trivial⟩ (fun _=>trivial) ?_;refine aT df rfl ⟨ct,trivial⟩ (fun _=>trivial) ?_;refine bG (aS [0,1,2,3,4] [(0,_,_),(1,_,_),(2,_,_),(3,_,_),(4,_,_)] rfl (aD ?_));refine cO (bE ?_);refine aT aX rfl ⟨ct,trivial⟩ (fun _=>trivial) ?_;refine aT gI rfl ⟨ct,trivial⟩ (fun _=>trivial) ?_;refine aT uz rfl ⟨ct,ct,trivial⟩ (fun _=>trivial) ?_;refine aT aX rfl ⟨ct,trivial⟩ (fun _=>trivial) ?_;refine bT (.bool false) rfl (by simp [aV]) rfl ?_;refine bT (.bool false) rfl (by simp [aV]) rfl ?_;refine bT (.bool false) rfl (by simp [aV]) rfl ?_;refine bT (.bool false) rfl (by simp [aV]) rfl ?_;refine bT (.bool false) rfl (by simp [aV]) rfl ?_;refine bT (.bool false) rfl (by simp [aV]) rfl ?_;refine ag ?_;refine aW rfl ⟨f1.below.step b2,?_⟩;rw [az fun h=>hno h.1];rfl
def Aj (n:Nat):Ty (List Value) where
 n:=n
 rep:=fun _ _ cs x=>cs=x/\x.length=n
 len:=fun _ _ _ _ h=>by rw [h.1]; exact h.2
 mono:=fun _ _ _ _ _ _ h=>h
 wider:=fun _ _ _ _ _ _ h=>h
theorem sw {m:Nat} {ad:Addr} {cap:Nat} {l:List (List Value)} (h:SL (Aj m) F w (.slice (some ad) n cap) l) {s:List Value} (hx:l[i]?=some s):(∀j u,s[j]?=some u->w.cell? ((ad.add ((i:Int).toNat*m)).add j)=some u)/\s.length=m:=by
 obtain ⟨ad',cs,h1,_,⟨rfl,g1⟩,hc⟩:=h.at hx;cases h1;exact ⟨hc,g1⟩
theorem su {m:Nat} (h0:0<m) (l:List (List Value)) (h:Blk w g t (l.flatMap id)) (hn:n=l.length) (hl: ∀x∈l,x.length=m) (hs:l.length<=1000000):SL (Aj m) (fun k=>k<w.heap.size) w (.slice (some ⟨g,0,none⟩) n n) l:=by
 subst hn;have e:(l.map fun x=>(x,x)).map (·.2)=l:=by
  rw [List.map_map];exact List.map_id l
 have hp: ∀p∈l.map fun x=>(x,x),(Aj m).rep (fun k=>k<w.heap.size) w p.1 p.2:=fun p hp=>by
  obtain ⟨x,hx,rfl⟩:=List.mem_map.1 hp;exact ⟨rfl,hl x hx⟩
 have hB:OwnS w t m (.slice (some ⟨g,0,none⟩) l.length l.length) l.length ((l.map fun x=>(x,x)).flatMap (·.1)):=by
  rw [List.flatMap_map];exact bu h (by
   rw [List.length_flatMap];have:l.map (fun a=>a.length)=l.map (fun _=>m):=List.map_congr_left fun x hx=>hl x hx;show (l.map fun a=>a.length).sum=_;rw [this,List.map_const',List.sum_replicate_nat]) (by omega)
 have:=dR (T:=Aj m) (F:=fun k=>k<w.heap.size) (l.map fun x=>(x,x)) hp h0 hB (by simp) (fun q hq=>by simp [Value.ownBlock] at hq; subst hq; exact h.lt) (by simp; omega);rw [e] at this;exact this
def pX:List (Bool×Int)->Int
 | []=>0
 | (b,e)::r=>if b then e else pX r
theorem ze {pre:List (Bool×Int)} {r:List (Bool×Int)} (h: ∀q∈pre,q.1=false):pX (pre++r)=pX r:=by
 induction pre with
 | nil=>rfl
 | cons x pre ih =>
  show (if x.1=true then x.2 else pX (pre++r))=pX r;rw [h x (by simp),if_neg (by simp)];exact ih fun q hq=>h q (by simp [hq])
theorem pV {rs:List (Value×Bool×Int)} (h:SL (Aj 2) F w v (rs.map fun r=> [r.1,.int .i64 r.2.2])) (hone: ∀r∈rs,r.1.oneCell'=true)
 (hc: ∀pre r suf W,rs=pre++r::suf->(∀q∈pre,q.2.1=false)->Below w.heap.size w W->NJ prog r.1 [] W fun u W'=>Below W.heap.size W W'/\u= .bool r.2.1) :
  Gives prog 67 #[v] w (ZJ w (.int .i64 (pX (rs.map (·.2))))):=by
 obtain ⟨A,cap,hv,_⟩:=h.form;rw [List.length_map] at hv;subst hv;have hmax:=h.len.2.2;rw [List.length_map] at hmax;refine gv (f:=67) ?_;refine ag ?_;refine aJ [5,6] (fun i:Nat=> [(7,none,.int .i64 (i:Int))])
  (fun i W=>i<=rs.length/\Below w.heap.size w W/\ ∀q∈rs.take i,q.2.1=false) (fun i=>rs.length-i) 0 ⟨ZB,ZA,by simp⟩ ?_
 rintro i W ⟨hi,hB,hno⟩;refine ag ?_;refine ai rfl (fun hlt=> ?_) (fun hge=> ?_)
 ·obtain ⟨r,hr,hrm⟩:=bD (l:=rs) (k:=i) (by omega);obtain ⟨hil,hie⟩:=ZE hr;have hW:=h.below hB;obtain ⟨ad,rfl⟩:=hW.addr (by rw [List.length_map]; omega);have hx:(rs.map fun r=> [r.1,Value.int .i64 r.2.2])[i]?=some [r.1,.int .i64 r.2.2]:=by rw [List.getElem?_map,hr]; rfl
  have hcx:=(sw hW hx).1;refine ag ?_;refine aF rfl (fun j u hj=>hcx j u hj) ?_;refine aM rfl MY rfl is120.q rfl (by rw [List.all_cons,hone r hrm]; rfl) ?_;rintro g4 w4 f4;refine ag ?_;have hb4:=hB.step f4.below;obtain ⟨k,fst,cp,hv,hen,hg⟩:=hc (rs.take i) r (rs.drop (i+1)) w4 (by rw [<-hie,<-List.drop_eq_getElem_cons hil,List.take_append_drop]) hno hb4;refine aj rfl (f4.blk.fld (j:=0) (congrArg some hv)) ?_;refine zJ rfl rfl hen rfl ah hg ?_;rintro u w5 ⟨b5,rfl⟩;refine ag ?_;have hb5:=hb4.step b5;refine au rfl (fun hyes=> ?_) (fun hnot=> ?_)
  ·refine ag ?_;refine aj rfl ((f4.blk.next b5).fld (j:=1) rfl) ?_;refine ag ?_;refine aW rfl ⟨hb5,?_⟩;have e:rs=rs.take i++r::rs.drop (i+1):=by rw [<-hie,<-List.drop_eq_getElem_cons hil,List.take_append_drop]
   rw [e,List.map_append,ze fun q hq=> ?_]
   ·rw [List.map_cons];unfold pX;rw [if_pos hyes]
   ·obtain ⟨z,hz,rfl⟩:=List.mem_map.1 hq;exact hno z hz
  ·refine ag ?_;refine aC (i+1) ⟨by omega,hb5,fun q hq=> ?_⟩;rw [ZG,hr] at hq;rcases ZH hq with hq|hq
   ·exact hno q hq
   ·simp at hq;subst hq;simpa using hnot
 ·refine ag ?_;refine aW rfl ⟨hB,?_⟩;rw [List.take_of_length_le (by omega)] at hno;have:=ze (pre:=rs.map (·.2)) (r:= []) fun q hq=>by
   obtain ⟨z,hz,rfl⟩:=List.mem_map.1 hq;exact hno z hz
  rw [List.append_nil] at this;rw [this];rfl
theorem lN {cs:List Value} (h:Blk w g t cs) (k:Nat) (ds r:List Value) (hk:cs.drop k=ds++r): ∀j v,ds[j]?=some v->w.cell? ((Addr.add ⟨g,0,none⟩ k).add j)=some v:=fun j v hj=>Blk.sub h k (ds++r) hk j v (by rw [List.getElem?_append_left (ZE hj).1]; exact hj)
theorem B7:pX [(!dec (DocOK ks p.doc),1),(!dec (kX ks p.doc),330),(!dec (kR p),1),(!dec (nW p),190)]=sO ks p:=by
 unfold sO pX pX pX pX pX;by_cases h1:DocOK ks p.doc
 ·rw [ay h1,if_neg (not_not_intro h1)];by_cases h2:kX ks p.doc
  ·rw [ay h2,if_neg (not_not_intro h2)];by_cases h3:kR p
   ·rw [ay h3,if_neg (not_not_intro h3)];by_cases h4:nW p
    ·rw [ay h4,if_neg (not_not_intro h4)];rfl
    ·rw [az h4,if_pos h4];rfl
   ·rw [az h3,if_pos h3];rfl
  ·rw [az h2,if_pos h2];rfl
 ·rw [az h1,if_pos h1];rfl
theorem EY {G:Nat->Prop} (hk:SL bC F w kv ks) (hp:SL bC G w pv p.path) (hd:DcOK p.doc) (hi:eB p.idx) :
  Gives prog 25 #[kv,.agg (Ak p pv).toArray] w (ZJ w (.int .i64 (sO ks p))):=by
 obtain ⟨KA,kc,rfl,_⟩:=hk.form;obtain ⟨PA,pc,rfl,_⟩:=hp.form;refine gv (f:=25) ?_;refine ag ?_;refine aG rfl rfl rfl rfl ?_;rintro g1 w1 f1;refine ag ?_;have hB1:=f1.blk;refine aF rfl (fun j u hj=>lN hB1 0 (Ej p.doc) _ rfl j u hj) ?_;refine ag ?_;refine aH [0,1] _ (uO p.doc (.slice KA ks.length kc)) rfl rfl rfl (aa rfl ct (aa rfl ct ah)) (by kernel_rfl) ?_;refine ag ?_;refine aj rfl (hB1.fld (j:=8) rfl) ?_;refine ag ?_;refine aF rfl (fun j u hj=>lN hB1 9 [.int .i64 p.idx,.slice PA p.path.length pc] [] rfl j u hj) ?_;refine aH [0,1,2] _ (Jg p (.slice KA ks.length kc) (.slice PA p.path.length pc)) rfl rfl rfl (aa rfl ct (aa rfl ct (aa rfl ct ah))) (by kernel_rfl) ?_;refine aM rfl MZ rfl is117.q rfl rfl ?_;rintro g5 w5 f5;refine ag ?_;have hB5:=f5.blk;refine aF rfl (fun j u hj=>lN hB5 0 (uO p.doc (.slice KA ks.length kc)) _ rfl j u hj) ?_;refine iQ rfl rfl (aa rfl ct ah) ah ?_;refine aH [0,1] _ [.func (.func 68) #[.agg (uO p.doc (.slice KA ks.length kc)).toArray] #[],.int .i64 1] rfl rfl rfl (aa rfl ct (aa rfl ct ah)) (by kernel_rfl) ?_;refine ag ?_;refine aF rfl (fun j u hj=>lN hB5 0 (uO p.doc (.slice KA ks.length kc)) _ rfl j u hj) ?_;refine iQ rfl rfl (aa rfl ct ah) ah ?_
 refine aH [0,1] _ [.func (.func 69) #[.agg (uO p.doc (.slice KA ks.length kc)).toArray] #[],.int .i64 330] rfl rfl rfl (aa rfl ct (aa rfl ct ah)) (by kernel_rfl) ?_;refine aF rfl (fun _ _ hv=>hB5.fld hv) ?_;refine iQ rfl rfl (aa rfl ct ah) ah ?_;refine aH [0,1] _ [.func (.func 70) #[.agg (Jg p (.slice KA ks.length kc) (.slice PA p.path.length pc)).toArray] #[],.int .i64 1] rfl rfl rfl (aa rfl ct (aa rfl ct ah)) (by kernel_rfl) ?_;refine aF rfl (fun _ _ hv=>hB5.fld hv) ?_;refine iQ rfl rfl (aa rfl ct ah) ah ?_;refine aH [0,1] _ [.func (.func 71) #[.agg (Jg p (.slice KA ks.length kc) (.slice PA p.path.length pc)).toArray] #[],.int .i64 190] rfl rfl rfl (aa rfl ct (aa rfl ct ah)) (by kernel_rfl) ?_;refine ak 120 _ rfl rfl rfl KE (aa rfl ct (aa rfl ct (aa rfl ct (aa rfl ct ah)))) rfl rfl rfl rfl rfl ?_;rintro g6 w6 f6;have b6:=f1.below.step (f5.below.step f6.below);have hk6:=hk.below b6;have hp6:=hp.below b6
 have hS:=su (m:=2) (by decide) [[.func (.func 68) #[.agg (uO p.doc (.slice KA ks.length kc)).toArray] #[],.int .i64 1],[.func (.func 69) #[.agg (uO p.doc (.slice KA ks.length kc)).toArray] #[],.int .i64 330],[.func (.func 70) #[.agg (Jg p (.slice KA ks.length kc) (.slice PA p.path.length pc)).toArray] #[],.int .i64 1],[.func (.func 71) #[.agg (Jg p (.slice KA ks.length kc) (.slice PA p.path.length pc)).toArray] #[],.int .i64 190]] f6.blk rfl (by simp) (by simp);obtain ⟨rs,hrs⟩: ∃rs:List (Value×Bool×Int),rs= [(.func (.func 68) #[.agg (uO p.doc (.slice KA ks.length kc)).toArray] #[],!dec (DocOK ks p.doc),1),(.func (.func 69) #[.agg (uO p.doc (.slice KA ks.length kc)).toArray] #[],!dec (kX ks p.doc),330),(.func (.func 70) #[.agg (Jg p (.slice KA ks.length kc) (.slice PA p.path.length pc)).toArray] #[],!dec (kR p),1),(.func (.func 71) #[.agg (Jg p (.slice KA ks.length kc) (.slice PA p.path.length pc)).toArray] #[],!dec (nW p),190)]:=⟨_,rfl⟩;have hcc: ∀pre r suf W,rs=pre++r::suf->(∀q∈pre,q.2.1=false)->Below w6.heap.size w6 W->NJ prog r.1 [] W fun u W'=>Below W.heap.size W W'/\u= .bool r.2.1:=by
  intro pre r suf W hcut hpre hbW;have hkW:=hk6.below hbW;have hpW:=hp6.below hbW;rw [hrs] at hcut;have isT: ∀ {b:Bool},(!b)=false->b=true:=fun h=>by simpa using h
  rcases pre with _|⟨a1,_|⟨a2,_|⟨a3,_|⟨a4,pre⟩⟩⟩⟩<;>simp at hcut
  ·obtain ⟨rfl,_⟩:=hcut;exact ⟨_,[_],[],rfl,ie68.q,rD hkW hd⟩
  ·obtain ⟨rfl,rfl,_⟩:=hcut;have h1:=dec_iff.1 (isT (hpre _ (.head _)));exact ⟨_,[_],[],rfl,ie69.q,Ht hkW hd h1⟩
  ·obtain ⟨rfl,rfl,rfl,_⟩:=hcut;exact ⟨_,[_],[],rfl,ie70.q,yD rfl rfl⟩
  ·obtain ⟨rfl,rfl,rfl,rfl,_⟩:=hcut;have h3:=dec_iff.1 (isT (hpre _ (.tail _ (.tail _ (.head _)))));exact ⟨_,[_],[],rfl,ie71.q,zW rfl hpW (by have:=h3.1.2.1; omega) hi⟩
 refine aA rfl (pV (rs:=rs) (by rw [hrs]; exact hS) (by rw [hrs]; simp [Value.oneCell']) hcc) ?_;rintro y w7 ⟨b7,rfl⟩;refine ag ?_;refine aW rfl ⟨b6.step b7,by rw [hrs,<-B7]; rfl⟩
theorem Gm {PA:Option Addr} {pc:Nat} {rs:List (Value×Bool)} (h:SL (Aj 1) F w v (rs.map fun r=> [r.1]))
 (hc: ∀r∈rs,∀W,Below w.heap.size w W->NJ prog r.1 [.agg (Ak p (.slice PA p.path.length pc)).toArray] W fun u W'=>Below W.heap.size W W'/\u= .bool r.2) :
  Gives prog 51 #[.agg (Ak p (.slice PA p.path.length pc)).toArray,v] w (ZJ w (.bool (rs.all (·.2)))):=by
 obtain ⟨A,cap,hv,_⟩:=h.form;rw [List.length_map] at hv;subst hv;have hmax:=h.len.2.2;rw [List.length_map] at hmax;refine gv (f:=51) ?_;refine ag ?_;refine aG rfl rfl rfl rfl ?_;rintro g2 w2 f2;refine ag ?_;refine aJ [2,7,8] (fun i:Nat=> [(9,none,.int .i64 (i:Int))])
  (fun i W=>i<=rs.length/\Below w2.heap.size w2 W/\(rs.take i).all (·.2)=true) (fun i=>rs.length-i) 0 ⟨ZB,ZA,rfl⟩ ?_
 rintro i W ⟨hi,hB,hall⟩;refine ag ?_;have hb:=f2.below.step hB;refine ai rfl (fun hlt=> ?_) (fun hge=> ?_)
 ·obtain ⟨r,hr,hrm⟩:=bD (l:=rs) (k:=i) (by omega);have hW:=h.below hb;obtain ⟨ad,rfl⟩:=hW.addr (by rw [List.length_map]; omega);have hx:(rs.map fun r=> [r.1])[i]?=some [r.1]:=by rw [List.getElem?_map,hr]; rfl
  have hcx:=(sw hW hx).1 0 r.1 rfl;obtain ⟨k,fst,cp,hv,hen,hg⟩:=hc r hrm W hb;rw [hv] at hcx;have hBW:=f2.blk.next hB;refine ag ?_;refine aj rfl hcx ?_;refine ag ?_;refine aF rfl (fun _ _ hv=>hBW.fld hv) ?_;refine zJ rfl rfl hen rfl (aa rfl ct ah) hg ?_;rintro u w5 ⟨b5,rfl⟩;refine ag ?_;refine aI [2,6,7,8,9,16] rfl ?_;refine au rfl (fun hyes=> ?_) (fun hnot=> ?_)
  ·refine ag ?_;refine aW rfl ⟨hb.step b5,?_⟩
   cases hq:rs.all (·.2) with
   | false=>rfl
   | true =>
    have:=List.all_eq_true.1 hq r hrm;rw [this] at hyes;cases hyes
  ·refine ag ?_;refine aC (i+1) ⟨by omega,hB.step b5,?_⟩;rw [ZG,hr,List.all_append,hall];simpa using hnot
 ·refine ag ?_;refine aW rfl ⟨hb,?_⟩;rw [List.take_of_length_le (by omega)] at hall;rw [hall]
theorem L9 (h:Blk w g 9 [.string lab]) (h1:pv.oneCell'=true):Gives prog 52 #[.agg (Ak p pv).toArray,.pointer (some ⟨g,0,none⟩)] w (ZJ w (.bool (decide (p.label=lab)))):=by
 refine gv (f:=52) ?_;refine ag ?_;refine aG rfl rfl rfl rfl ?_;rintro g2 w2 f2;refine ag ?_;refine aj rfl (f2.blk.fld (j:=8) rfl) ?_;refine aj rfl ((h.next f2.below).cell 0) ?_;refine ag ?_;refine aW rfl ⟨f2.below,by rw [uu]⟩
theorem L8 (h:Blk w g 3 [.int .i64 op]) (h1:pv.oneCell'=true):Gives prog 53 #[.agg (Ak p pv).toArray,.pointer (some ⟨g,0,none⟩)] w (ZJ w (.bool (decide (p.doc.fr=op/\p.doc.to≠op)))):=by
 refine gv (f:=53) ?_;refine ag ?_;refine aG rfl rfl rfl rfl ?_;rintro g2 w2 f2;refine ag ?_;refine aj rfl (f2.blk.fld (j:=1) rfl) ?_;refine aj rfl ((h.next f2.below).cell 0) ?_;refine ag ?_;refine aj rfl (f2.blk.fld (j:=2) rfl) ?_;refine aj rfl ((h.next f2.below).cell 0) ?_;refine ag ?_;refine aW rfl ⟨f2.below,by simp⟩
theorem L6 {t:Int} (h:Blk w g 3 [.int .i64 t]) (h1:pv.oneCell'=true):Gives prog 54 #[.agg (Ak p pv).toArray,.pointer (some ⟨g,0,none⟩)] w (ZJ w (.bool (decide (p.doc.time<=t)))):=by
 refine gv (f:=54) ?_;refine ag ?_;refine aG rfl rfl rfl rfl ?_;rintro g2 w2 f2;refine ag ?_;refine aj rfl (f2.blk.fld (j:=3) rfl) ?_;refine aj rfl ((h.next f2.below).cell 0) ?_;refine ag ?_;refine aW rfl ⟨f2.below,rfl⟩
theorem L5 {G:Nat->Prop} (h:Blk w g 32 [kv]) (hk:SL bC F w kv ks) (hp:SL bC G w pv p.path) (hd:DcOK p.doc) (hi:eB p.idx):Gives prog 55 #[.agg (Ak p pv).toArray,.pointer (some ⟨g,0,none⟩)] w (ZJ w (.bool (decide (sO ks p=0)))):=by
 obtain ⟨PA,pc,rfl,_⟩:=hp.form;obtain ⟨KA,kc,rfl,_⟩:=hk.form;refine gv (f:=55) ?_;refine ag ?_;refine aG rfl rfl rfl rfl ?_;rintro g2 w2 f2;refine ag ?_;refine aj rfl ((h.next f2.below).cell 0) ?_;refine aF rfl (fun _ _ hv=>f2.blk.fld hv) ?_;refine aA rfl (EY (hk.below f2.below) (hp.below f2.below) hd hi) ?_;rintro y w3 ⟨b3,rfl⟩;refine ag ?_;refine aW rfl ⟨f2.below.step b3,rfl⟩
def MJ:Ty Pp where
 n:=11
 rep:=fun F w cs p=> ∃pv,cs=Ak p pv/\DcOK p.doc/\eB p.idx/\SL bC F w pv p.path
 len:=fun _ _ _ _ h=>by obtain ⟨v,h,_⟩:=h; rw [h]; rfl
 mono:=fun _ _ _ _ _ hk h=>by obtain ⟨v,h,h1,h2,hs⟩:=h; exact ⟨v,h,h1,h2,hs.mono hk⟩
 wider:=fun _ _ _ _ _ hF h=>by obtain ⟨v,h,h1,h2,hs⟩:=h; exact ⟨v,h,h1,h2,hs.wider hF⟩
theorem Cj:Ty.Now MJ:=⟨by decide,fun F w cs e ⟨v,h,h1,h2,hs⟩=>⟨v,h,h1,h2,hs.now dV⟩⟩
abbrev SPp (w:World) (v:Value) (l:List Pp):Prop:=SL MJ (fun k=>k<w.heap.size) w v l
theorem fq {w':World} {l:List Pp} (h:SPp w v l) (hb:Below w.heap.size w w'):SPp w' v l:=h.step Cj hb
theorem SPp.get {ad:Addr} {cap:Nat} {l:List Pp} (h:SL MJ F w (.slice (some ad) n cap) l) (hx:l[i]?=some p) :
  ∃ v,(∀j u,(Ak p v)[j]?=some u->w.cell? ((ad.add ((i:Int).toNat*11)).add j)=some u)/\DcOK p.doc/\eB p.idx/\SL bC F w v p.path:=by
 obtain ⟨ad',cs,h1,_,⟨v,rfl,g1,g2,hs⟩,hc⟩:=h.at hx;cases h1;exact ⟨v,hc,g1,g2,hs⟩
theorem Bj {t:Int}:(decide (p.label=lab)&&(decide (p.doc.fr=op/\p.doc.to≠op)&&(decide (p.doc.time<=t)&&(decide (sO ks p=0)&&true))))=dec (uK ks lab op t p):=by
 by_cases h:uK ks lab op t p
 ·rw [ay h];obtain ⟨h1,h2,h3,h4,h5⟩:=h;simp [h1,h2,h3,h4,h5]
 ·rw [az h,Bool.eq_false_iff];intro hq;simp only [Bool.and_eq_true,decide_eq_true_eq,and_true] at hq;exact h ⟨hq.1,hq.2.1.1,hq.2.1.2,hq.2.2.1,hq.2.2.2⟩
theorem nP {psv:Value} {ps:List Pp} {t:Int} (hk:SL bC F w kv ks) (hps:SPp w psv ps) :
  Gives prog 18 #[kv,psv,.string lab,.int .i64 op,.int .i64 t] w (ZJ w (.bool (dec (sM ks ps lab op t)))):=by
 obtain ⟨KA,kc,rfl,_⟩:=hk.form;obtain ⟨A,cap,rfl,_⟩:=hps.form;have hmax:=hps.len.2.2;refine gv (f:=18) ?_;refine ag ?_;refine aG rfl rfl rfl rfl ?_;rintro g5 w1 f1;refine aG rfl rfl rfl rfl ?_;rintro g7 w2 f2;refine aG rfl rfl rfl rfl ?_;rintro g8 w3 f3;refine aG rfl rfl rfl rfl ?_;rintro g9 w4 f4;refine ag ?_;have b34:=f4.below;have b24:=f3.below.step b34;have b14:=f2.below.step b24;have b4:=f1.below.step b14;have hB5:=f1.blk.next b14;have hB7:=f2.blk.next b24;have hB8:=f3.blk.next b34;have hB9:=f4.blk;refine ai rfl (fun hbig=> ?_) (fun hsmall=> ?_)
 ·refine ag ?_;refine aW rfl ⟨b4,by rw [az fun h=>by have:=h.1; omega]⟩
 have h100:ps.length<=100:=by omega
 refine ag ?_;refine aJ [5,7,8,9,16,17] (fun i:Nat=> [(18,none,.int .i64 (i:Int))])
  (fun i W=>i<=ps.length/\Below w4.heap.size w4 W/\ ∀p∈ps.take i,¬uK ks lab op t p) (fun i=>ps.length-i) 0 ⟨ZB,ZA,by simp⟩ ?_
 rintro i W ⟨hi,hB,hno⟩;have hb:=b4.step hB;refine ag ?_;refine ai rfl (fun hlt=> ?_) (fun hge=> ?_)
 ·obtain ⟨p,hp,hpm⟩:=bD (l:=ps) (k:=i) (by omega);have hW:=fq hps hb;obtain ⟨ad,rfl⟩:=hW.addr (by omega);obtain ⟨pv,hcells,hd,hix,hpath⟩:=SPp.get hW hp;obtain ⟨PA,pc,rfl,_⟩:=hpath.form;refine ag ?_;refine aF rfl (fun j u hj=>hcells j u hj) ?_;refine aM rfl KS rfl is67.q rfl rfl ?_;rintro g12 w6 f6;refine ag ?_;have hb6:=hB.step f6.below;have b6:=hb.step f6.below;refine aF rfl (fun _ _ hv=>f6.blk.fld hv) ?_;refine aN rfl rfl (aa rfl ct ah) ?_;refine aN rfl rfl (aa rfl ct ah) ?_;refine aN rfl rfl (aa rfl ct ah) ?_;refine aN rfl rfl (aa rfl ct ah) ?_;refine ak 175 _ rfl rfl rfl Ny (aa rfl ct (aa rfl ct (aa rfl ct (aa rfl ct ah)))) rfl rfl rfl rfl rfl ?_;rintro g27 w7 f7;have hb7:=hb6.step f7.below;have b7:=b6.step f7.below;obtain ⟨rs,hrs⟩: ∃rs:List (Value×Bool),rs= [(.func (.func 52) #[] #[.pointer (some ⟨g7,0,none⟩)],decide (p.label=lab)),(.func (.func 53) #[] #[.pointer (some ⟨g8,0,none⟩)],decide (p.doc.fr=op/\p.doc.to≠op)),(.func (.func 54) #[] #[.pointer (some ⟨g9,0,none⟩)],decide (p.doc.time<=t)),(.func (.func 55) #[] #[.pointer (some ⟨g5,0,none⟩)],decide (sO ks p=0))]:=⟨_,rfl⟩
  have hS:=su (m:=1) (by decide) [[.func (.func 52) #[] #[.pointer (some ⟨g7,0,none⟩)]],[.func (.func 53) #[] #[.pointer (some ⟨g8,0,none⟩)]],[.func (.func 54) #[] #[.pointer (some ⟨g9,0,none⟩)]],[.func (.func 55) #[] #[.pointer (some ⟨g5,0,none⟩)]]] f7.blk rfl (by simp) (by simp);have hp7:SL bC (fun k=>k<W.heap.size) w7 (.slice PA p.path.length pc) p.path:=hpath.below (f6.below.step f7.below);have hk7:=hk.below b7;have hcc: ∀r∈rs,∀W2,Below w7.heap.size w7 W2->NJ prog r.1 [.agg (Ak p (.slice PA p.path.length pc)).toArray] W2 fun u W'=>Below W2.heap.size W2 W'/\u= .bool r.2:=by
   intro r hr W2 hbW;have hb2:=hb7.step hbW;rw [hrs] at hr;simp only [List.mem_cons,List.not_mem_nil,or_false] at hr;rcases hr with rfl|rfl|rfl|rfl
   ·exact ⟨_,[],[_],rfl,ie52.q,L9 (hB7.next hb2) rfl⟩
   ·exact ⟨_,[],[_],rfl,ie53.q,L8 (hB8.next hb2) rfl⟩
   ·exact ⟨_,[],[_],rfl,ie54.q,L6 (hB9.next hb2) rfl⟩
   ·exact ⟨_,[],[_],rfl,ie55.q,L5 (hB5.next hb2) (hk7.below hbW) (hp7.below hbW) hd hix⟩
  refine aA rfl (Gm (rs:=rs) (by rw [hrs]; exact hS) hcc) ?_;rintro y w8 ⟨b8,rfl⟩;have hall:rs.all (·.2)=dec (uK ks lab op t p):=by rw [hrs]; exact Bj
  rw [hall];refine ag ?_;refine aI [5,7,8,9,12,16,17,18,28] rfl ?_;refine au rfl (fun hyes=> ?_) (fun hnot=> ?_)
  ·refine ag ?_;refine aW rfl ⟨b7.step b8,by rw [ay ⟨h100,p,hpm,dec_iff.1 hyes⟩]⟩
  ·refine ag ?_;refine aC (i+1) ⟨by omega,hb7.step b8,fun q hq=> ?_⟩;rw [ZG,hp] at hq;rcases ZH hq with hq|hq
   ·exact hno q hq
   ·simp at hq;subst hq;intro hf;rw [ay hf] at hnot;cases hnot
 ·refine ag ?_;refine aW rfl ⟨hb,?_⟩;rw [List.take_of_length_le (by omega)] at hno;rw [az];rintro ⟨_,p,hp,hf⟩;exact hno p hp hf
end Go.Proofs.YtobaafdejnimkaaGreatDoor
