/- Texts of this claim,joined. -/
import Derived.Test.YtobaafdejnimkaaGreatDoorQK
import Derived.Lib.LaidTab
set_option linter.unusedSimpArgs false
set_option linter.unusedVariables false
set_option maxRecDepth 100000
set_option maxHeartbeats 4000000
namespace Go.Proofs.YtobaafdejnimkaaGreatDoor
open Go.PF Go.RowKit Go.Ord
attribute [local irreducible] TW CW KW DW
variable {w:World} {v:Value}
theorem litEv {g:Nat} {t:TypeId} {n:Nat} (ps:List (List Value×Ev)) (h:Blk w g t (ps.flatMap (·.1))) (hn:n=ps.length) (hp: ∀p∈ps,evT.rep (fun k=>k<w.heap.size) w p.1 p.2) (hs:ps.length≤1000000):SE w (.slice (some ⟨g,0,none⟩) n n) (ps.map (·.2)):=by
 subst hn
 exact OwnS.toSLp (T:=evT) (F:=fun k=>k<w.heap.size) (w:=w) (e:=t) (v:= .slice (some ⟨g,0,none⟩) ps.length ps.length) (n:=ps.length) ps hp (by decide) (OwnS.of_blk h (flat_len (fun p:List Value×Ev=>p.1) 4 ps (fun p hp'=>evT.len _ _ _ _ (hp p hp'))) (by omega)) rfl (fun q hq=>by simp [Value.ownBlock] at hq; subst hq; exact h.lt) (by omega)
theorem evT_nb:Ty.Nb evT:=⟨by decide,fun F w cs e ⟨v,h,h1,h2,h3,hs⟩=>⟨v,h,h1,h2,h3,hs.nb intT_nb⟩⟩
theorem evT_one:Ty.One evT:=fun _ _ _ _ ⟨v,h,_,_,_,A,cap,hv,_⟩ u hu=>by
 rw [h] at hu
 simp at hu
 rcases hu with rfl|rfl|rfl|rfl
 ·rfl
 ·rfl
 ·rfl
 ·rw [hv]; rfl
abbrev SRB (b:Nat) (w:World) (v:Value) (rs:List (List Ev)):Prop:=SL (sliceT evT) (fun k=>b≤k∧k<w.heap.size) w v rs
abbrev SRs (w:World) (v:Value) (rs:List (List Ev)):Prop:=SL (sliceT evT) (fun k=>k<w.heap.size) w v rs
theorem srs_step {w':World} {l:List (List Ev)} (h:SRs w v l) (hb:Below w.heap.size w w'):SRs w' v l:=h.step (sliceT_now evT_now) hb
theorem restsOf_c {u:Value} {l:List Ev} {ws:List (List Int)} {F:Nat→Prop} (hl:SE w v l) (hS:SL (sliceT intT) F w u ws) (hsm:l.length≤1000000) (hne: ∀e∈l,e.needs.length≤1000000) (hw:ws.length≤1000000) :
  Gives Tryz.prog 59 #[v,u] w fun x w'=>Below w.heap.size w w'∧SRB w.heap.size w' x (restsS l ws):=by
 obtain ⟨B,bcap,rfl,_⟩:=hS.form
 refine gv (f:=59) ?_
 refine rnT ?_
 refine CW.lp [0,8,9] (fun x:Nat×Value×List (List Value×List Ev)=> [(5,none,x.2.1),(10,none,.int .i64 (x.1:Int))])
  (fun x W=>x.1≤ws.length∧Below w.heap.size w W∧RowB (sliceT evT) W 31 w.heap.size x.2.1 x.2.2∧x.2.2.map (·.2)=restsS l (ws.take x.1)) (fun x=>ws.length-x.1) (0,.slice none 0 0,[]) ⟨Nat.zero_le _,Below.refl _ _,RowB.nil _ _ _ _,rfl⟩ ?_
 rintro ⟨k,rv,ps⟩ W ⟨hk,hB,hR,hmap⟩
 dsimp only at hk hR hmap
 have hpl:ps.length=k:=by
  have:=congrArg List.length hmap
  simp [restsS] at this
  omega
 refine rnT ?_
 refine CW.condP rfl (fun hlt=> ?_) (fun hge=> ?_)
 ·have hSW:=hS.below hB
  obtain ⟨ad,rfl⟩:=hSW.addr (by omega)
  obtain ⟨S,hS1,hSm⟩:=getx (l:=ws) (k:=k) (by omega)
  obtain ⟨sv,hcell,hrow⟩:=hSW.row hS1
  refine rnT ?_
  refine TW.ld rfl hcell ?_
  refine rnT ?_
  refine TW.cl rfl (restB_c (se_step hl hB) hrow hsm hne) ?_
  rintro rv1 w1 ⟨b1,h1⟩
  obtain ⟨A1,cap1,rfl,_⟩:=h1.form
  refine TW.buildSlice 31 _ rfl rfl rfl eo98 (Args.cons rfl ct Args.nil) rfl rfl rfl rfl rfl ?_
  rintro g2 w2 f2
  have hR2:=(hR.step b1).step f2.below
  have hB2:=(hB.step b1).step f2.below
  have s2:=(b1.step f2.below).size
  refine TW.append [.slice A1 (restS l S).length cap1] rfl rfl go98 rfl hR2.1 rfl rfl (fun j v hj=>⟨⟨g2,0,none⟩,rfl,f2.blk.fld hj⟩) (fun v hv=>by simp at hv; subst hv; rfl) (by omega) (by omega) ?_
  rintro rv' w3 hO3 hg3 hn3
  refine rnT ?_
  have hR3:RowB (sliceT evT) w3 31 w.heap.size rv' (ps++ [([.slice A1 (restS l S).length cap1],restS l S)]):=hR2.app hO3 hg3 hn3 ⟨_,rfl,((h1.below f2.below).nb evT_nb).wider fun q hq=>⟨Nat.le_trans hB.size hq.1.1,hq.2,fun e=>by have:=hR.1.lt e; have:=hq.1.1; omega⟩⟩ hB2.size
  refine KW.rd (k+1,rv',ps++ [([.slice A1 (restS l S).length cap1],restS l S)]) ⟨by show k+1≤ws.length; omega,hB2.grown hg3 hB2.size hR.2.2,hR3,?_⟩
  show List.map Prod.snd (ps++ [_])=restsS l (ws.take (k+1))
  unfold restsS at hmap ⊢
  rw [List.map_append,hmap,List.take_add_one,hS1]
  simp
 ·refine rnT ?_
  refine rt1 rfl ⟨hB,?_⟩
  have:=hR.sl (by decide)
  rw [hmap,List.take_of_length_le (by omega)] at this
  exact this
theorem growE_c {n:Nat} (hn:n≤1000000000):Gives Tryz.prog 190 #[.slice none 0 0,.int .i64 (n:Int)] w fun u w'=>Below w.heap.size w w'∧OwnS w' 60 4 u 0 []∧ ∀g,u.ownBlock=some g→w.heap.size≤g:=by
 refine gv (f:=190) ?_
 refine rnT ?_
 refine CW.condP rfl (fun hneg=> ?_) (fun hpos=> ?_)
 ·exfalso
  omega
 refine rnT ?_
 refine TW.capSlice rfl rfl Tryz.underlying31 rfl ct ?_
 refine rnT ?_
 refine CW.pk [0,1,4,16] rfl ?_
 refine CW.condP rfl (fun hgt=> ?_) (fun hle=> ?_)
 ·refine rnT ?_
  refine TW.capSlice rfl rfl Tryz.underlying31 rfl ct ?_
  refine TW.v V.sliceH rfl ⟨ct,ct,trivial⟩ (fun _=>by (try dsimp only); omega) ?_
  refine rnT ?_
  rw [show ((n:Int)-((((0:Nat):Int))-((0:Nat):Int)))=(n:Int) by omega]
  refine TW.appendZn rfl rfl go31 Tryz.underlying3 rfl rfl (by omega) hn (by decide) (by decide) ?_
  rintro g cap w1 hcap hO hg hb
  refine rnT ?_
  refine TW.v V.sliceH rfl ⟨ct,ct,trivial⟩ (fun _=>by (try dsimp only); omega) ?_
  refine rnT ?_
  refine rt1 rfl ⟨hb,hO,fun q hq=>by simp [Value.ownBlock] at hq; omega⟩
 ·refine rnT ?_
  refine rt1 rfl ⟨Below.refl _ _,OwnS.nil _ _ _,fun g hg=>by simp [Value.ownBlock] at hg⟩
theorem concatE_c {a b:List Ev} (hv:SL (sliceT evT) (fun k=>k<w.heap.size) w v [a,b]) (ha:a.length≤1000000) (hb:b.length≤1000000) :
  Gives Tryz.prog 113 #[v] w fun u w'=>Below w.heap.size w w'∧SE w' u (a++b):=by
 obtain ⟨A,cap,rfl,_⟩:=hv.form
 obtain ⟨ad,rfl⟩:=hv.addr (by simp)
 have hsum: ∀k,(([a,b].take k).flatten).length≤2000000:=fun k=>by
  rcases k with _|_|k<;>simp<;>omega
 refine gv (f:=113) ?_
 refine rnT ?_
 refine CW.lp [0,9,10] (fun k:Nat=> [(3,none,.int .i64 ((([a,b].take k).flatten).length:Int)),(11,none,.int .i64 (k:Int))])
  (fun k W=>k≤2∧Below w.heap.size w W) (fun k=>2-k) 0 ⟨by omega,Below.refl _ _⟩ ?_
 have h2l: [a,b].length=2:=rfl
 rintro k W ⟨hk,hB⟩
 have hsk:=hsum k
 refine rnT ?_
 refine CW.condP rfl (fun hlt=> ?_) (fun hge=> ?_)
 ·have hk2:k< [a,b].length:=by simp; omega
  obtain ⟨r,hr⟩: ∃r,[a,b][k]?=some r:=⟨_,List.getElem?_eq_getElem hk2⟩
  have hrl:r.length≤1000000:=by
   have:=List.mem_of_getElem? hr
   simp at this
   rcases this with rfl|rfl<;>assumption
  obtain ⟨rv,hcell,hrow⟩:=(hv.below hB).row hr
  obtain ⟨R,rcap,rfl,_⟩:=hrow.form
  refine rnT ?_
  refine TW.ld rfl hcell ?_
  refine rnT ?_
  refine CW.pk [0,3,5,9,10,11,20] rfl ?_
  refine CW.condP rfl (fun hneg=> ?_) (fun hpos=> ?_)
  ·exfalso
   omega
  ·refine rnT ?_
   refine KW.rd (k+1) ⟨by omega,hB⟩ (hp:= ?_)
   rw [List.take_add_one,hr]
   simp only [Option.toList_some,List.flatten_append,List.length_append,List.flatten_cons,List.flatten_nil,List.append_nil,Int.natCast_add]
   rfl
 have hke:k=2:=by omega
 subst hke
 refine rnT ?_
 refine TW.cl rfl (growE_c (n:=(([a,b].take 2).flatten).length) (by omega)) ?_
 rintro u1 w1 ⟨c1,hO1,ho1⟩
 have hB1:=hB.step c1
 have hs1:=hB.size
 refine rnT ?_
 refine CW.lp [25,26] (fun x:Nat×Value×List (List Value×Ev)=> [(6,none,x.2.1),(27,none,.int .i64 (x.1:Int))])
  (fun x W=>x.1≤2∧Below w.heap.size w W∧OwnS W 60 4 x.2.1 x.2.2.length (x.2.2.flatMap (·.1))∧(∀g,x.2.1.ownBlock=some g→w.heap.size≤g)∧x.2.2.map (·.2)=([a,b].take x.1).flatten∧ ∀p∈x.2.2,evT.rep (fun k=>k<w.heap.size) w p.1 p.2) (fun x=>2-x.1) (0,u1,[]) ⟨by show 0≤2; omega,hB1,hO1,fun g hg=>by have:=ho1 g hg; omega,rfl,fun p hp=>by cases hp⟩ ?_
 rintro ⟨k,ov,ps⟩ W ⟨hk,hB2,hO,hob,hmap,hrep⟩
 dsimp only at hk hO hob hmap hrep
 have hsk:=hsum k
 have hpl:ps.length≤2000000:=by
  have:=congrArg List.length hmap
  simp only [List.length_map] at this
  omega
 refine rnT ?_
 refine CW.condP rfl (fun hlt=> ?_) (fun hge=> ?_)
 ·have hk2:k< [a,b].length:=by simp; omega
  obtain ⟨r,hr⟩: ∃r,[a,b][k]?=some r:=⟨_,List.getElem?_eq_getElem hk2⟩
  have hrl:r.length≤1000000:=by
   have:=List.mem_of_getElem? hr
   simp at this
   rcases this with rfl|rfl<;>assumption
  obtain ⟨rv,hcell0,hrow0⟩:=hv.row hr
  have hcell:=(hB2.cell (block_lt_of_cell hcell0)).trans hcell0
  obtain ⟨R,rcap,rfl,_⟩:=hrow0.form
  obtain ⟨qs,hq1,hq2,hq3,hq4⟩:=hrow0.flat (by decide)
  refine rnT ?_
  refine TW.ld rfl hcell ?_
  refine rnT ?_
  refine TW.append (qs.flatMap (·.1)) rfl rfl go31 rfl hO rfl (by rw [hq3]; rfl) (fun j u hj=>by
   obtain ⟨ad',h1,h2⟩:=hq4 j u hj
   exact ⟨ad',h1,(hB2.cell (block_lt_of_cell h2)).trans h2⟩) (one_flat evT_one hq2) (by omega) (by omega) ?_
  rintro ov' w2 o2 hg2 hn2
  refine rnT ?_
  have hql:qs.length=r.length:=by rw [←hq1]; simp
  refine KW.rd (k+1,ov',ps++qs) ⟨by show k+1≤2; omega,hB2.grown hg2 hB2.size hob,?_,fun g hg=> ?_,?_,fun p hp=> ?_⟩
  ·show OwnS w2 _ 4 ov' (ps++qs).length ((ps++qs).flatMap (·.1))
   rw [List.flatMap_append,List.length_append,hql]
   exact o2
  ·rcases hn2 with h|h
   ·exact hob g (by rw [←h]; exact hg)
   ·rw [h] at hg; cases hg; exact hB2.size
  ·show (ps++qs).map (·.2)=([a,b].take (k+1)).flatten
   rw [List.map_append,hmap,hq1,List.take_add_one,hr]
   simp
  ·rcases List.mem_append.1 hp with h|h
   ·exact hrep p h
   ·exact hq2 p h
 ·have hke:k=2:=by omega
  subst hke
  have e:([a,b].take 2).flatten=a++b:=by simp
  rw [e] at hmap
  refine rnT ?_
  refine rt1 rfl ⟨hB2,?_⟩
  have:=OwnS.toSLn (by decide) hB2 hrep hO rfl (by omega)
  rw [hmap] at this
  exact this.wider fun q hq=>hq.elim (fun h=>by have:=hB2.size; omega) (fun h=>hO.lt h)
def FormR (K:Knd) (r:List Ev) (W:World) (ev lg:Value):Prop:=match K with
 | .at o f t=>SE W ev (r++ [vis o f t])∧lg= .slice none 0 0
 | .on l t=>SE W ev (r++ [lvE l t,arE l t])∧ ∃la lc,lg= .slice (some la) 1 lc∧LegAt W la r.length l.trav
def FormOK (w:World) (k:FuncId) (caps:List Value) (K:Knd):Prop:= ∀(r:List Ev) (rv:Value) (w':World),Below w.heap.size w w'→SE w' rv r→r.length≤14 →
 Gives Tryz.prog k (rv::caps).toArray w' fun u w''=>Below w'.heap.size w' w''∧ ∃ev lg,u= .tuple #[ev,lg]∧FormR K r w'' ev lg
theorem FormOK.step {w w':World} {k:FuncId} {caps:List Value} {K:Knd} (h:FormOK w k caps K) (hb:Below w.heap.size w w'):FormOK w' k caps K:=fun r rv w2 h2=>h r rv w2 (hb.step h2)
def Knd.OK:Knd→Prop
 | .at o f t=>I64 o∧I64 f∧I64 t
 | .on l t=>I64 l.frm∧I64 l.to∧0≤l.trav∧l.trav≤1000000∧0≤t∧t≤1000000
theorem visit1_c {g1 g2 g3:Nat} {o f t:Int} (h1:Blk w g1 3 [.int .i64 o]) (h2:Blk w g2 3 [.int .i64 f]) (h3:Blk w g3 3 [.int .i64 t]) (hI:Knd.OK (.at o f t)) :
  FormOK w 112 [.pointer (some ⟨g1,0,none⟩),.pointer (some ⟨g2,0,none⟩),.pointer (some ⟨g3,0,none⟩)] (.at o f t):=by
 intro r rv w1 hb1 hr hlen
 obtain ⟨R,rcap,rfl,_⟩:=hr.form
 refine gv (f:=112) ?_
 refine rnT ?_
 refine TW.ld rfl ((h1.next hb1).cell 0) ?_
 refine TW.ld rfl ((h2.next hb1).cell 0) ?_
 refine TW.ld rfl ((h3.next hb1).cell 0) ?_
 refine TW.build [0,1,2] _ [.int .i64 o,.int .i64 f,.int .i64 t,.slice none 0 0] rfl rfl rfl (Args.cons rfl ct (Args.cons rfl ct (Args.cons rfl ct Args.nil))) (by kernel_rfl) ?_
 refine TW.buildSlice 60 _ rfl rfl rfl eo31 (Args.cons rfl ct Args.nil) rfl rfl rfl rfl rfl ?_
 rintro g4 w4 f4
 refine TW.buildSlice 31 _ rfl rfl rfl eo98 (Args.cons rfl ct (Args.cons rfl ct Args.nil)) rfl rfl rfl rfl rfl ?_
 rintro g5 w5 f5
 have b5:=f4.below.step f5.below
 have e5:SE w5 (.slice (some ⟨g4,0,none⟩) 1 1) [vis o f t]:=litEv [([.int .i64 o,.int .i64 f,.int .i64 t,.slice none 0 0],vis o f t)] (f4.blk.next f5.below) rfl (fun p hp=>by
  simp only [List.mem_cons,List.not_mem_nil,or_false] at hp
  subst hp
  exact ⟨_,rfl,hI.1,hI.2.1,hI.2.2,SL.nil _ _ _⟩) (by simp)
 have r5:=se_step hr b5
 have v5:SRs w5 (.slice (some ⟨g5,0,none⟩) 2 2) [r,[vis o f t]]:=OwnS.toSLp (T:=sliceT evT) (F:=fun k=>k<w5.heap.size) (w:=w5) (e:=31) (n:=2) [([.slice R r.length rcap],r),([.slice (some ⟨g4,0,none⟩) 1 1],[vis o f t])] (fun p hp=>by
  simp only [List.mem_cons,List.not_mem_nil,or_false] at hp
  rcases hp with rfl|rfl
  ·exact ⟨_,rfl,r5⟩
  ·exact ⟨_,rfl,e5⟩) (by decide) (OwnS.of_blk f5.blk rfl (by omega)) rfl (fun q hq=>by simp [Value.ownBlock] at hq; subst hq; exact f5.blk.lt) (by simp)
 refine TW.cl rfl (concatE_c v5 (by omega) (by simp)) ?_
 rintro u6 w6 ⟨b6,h6⟩
 refine rnT ?_
 refine rt2 rfl ⟨b5.step b6,_,_,rfl,h6,rfl⟩
end Go.Proofs.YtobaafdejnimkaaGreatDoor
namespace Go.PF
open Go.RowKit
section
variable {P:Program} {N:Nat} {ds:List Deferred} {ops rest:List Oper} {D:DE} {w:World} {G:Option Bool} {Fin:DE→Prop}
variable {d:Option Tmp} {ty:TypeId} {pos:String} {af:Array Edge} {gu:Option (Nat×Bool)}
variable {x:Operand} {cx:Option Bool}
theorem DW.buildSliceB {t:TypeId} (e:TypeId) {sz len:Nat} {parts:Array (Nat×Operand)} (xs:List Operand) {es:List Ent} (ψ:Value→World→Prop) (hm:Ent.mono (.pr ψ)) (hg:dgd ops D gu=some G) (hd:okDst N d=true) (hp:parts.toList=number xs) (he:elemOK P t e sz=true)
  (hx:PArgs (Oper.looksAt ops.toArray ⟨d,.buildSlice t len parts,ty,pos,af,gu⟩) N ds D G xs es) (hl:len=xs.length) (hsm:Nat.ble (xs.length*sz) 16777216=true) (hpos:Nat.blt 0 xs.length=true)
  (h:Cnd G→ ∀vs w1,Below w.heap.size w w1→Sats es vs w1→(∀v∈vs,v.cells.size=sz)∧ ∀g w',Fresh w1 w' g e (vs.flatMap (fun v=>v.cells.toList))→ψ (.slice (some ⟨g,0,none⟩) len len) w')
  (next:DW P N ds .weak ops w Fin rest (dins D d G (.pr ψ))):DW P N ds .weak ops w Fin (⟨d,.buildSlice t len parts,ty,pos,af,gu⟩::rest) D:=by
 refine DW.gen hg hd rfl hm (fun hG a w' hb ha=> ?_) next
 have hs:=hx (fun t ht=>mem_looks ?_) a w' ha hG
 ·obtain ⟨h1,h2⟩:=h hG _ _ hb hs
  refine ⟨_,_,X.buildSlice hp (by simpa using hl) he rfl h1 (by simpa using Nat.le_of_ble_eq_true hsm) (by simpa using blt_iff.1 hpos),(Below.refl _ _).alloc (Nat.le_refl _) _,?_⟩
  have:=h2 _ _ (Fresh.mk' w' e _)
  rw [hl] at this
  show ψ _ _
  simpa using this
 ·simp only [Op.operands]
  rw [hp]
  simp only [number,List.map_map]
  rw [List.mem_map]
  obtain ⟨i,hi,hit⟩:=List.getElem_of_mem ht
  exact ⟨(.tmp t,i),by rw [List.mem_zipIdx_iff_getElem?]; rw [List.getElem?_eq_getElem hi,hit],rfl⟩
end
end Go.PF
namespace Go.Proofs.YtobaafdejnimkaaGreatDoor
open Go.PF Go.RowKit Go.Ord
attribute [local irreducible] TW CW KW DW
variable {w:World} {t:Int} {K:Knd}
theorem ride1_c {g1 g2:Nat} {l:Li} (h1:Blk w g1 113 (liV l)) (h2:Blk w g2 3 [.int .i64 t]) (hI:Knd.OK (.on l t)) :
  FormOK w 191 [.pointer (some ⟨g1,0,none⟩),.pointer (some ⟨g2,0,none⟩)] (.on l t):=by
 intro r rv w1 hb1 hr hlen
 obtain ⟨R,rcap,rfl,_⟩:=hr.form
 obtain ⟨i1,i2,i3,i4,i5,i6⟩:=hI
 have B1:=h1.next hb1
 have B2:=h2.next hb1
 have j3:I64 (t-l.trav+1):=⟨by omega,by omega⟩
 have j4:I64 (t-1):=⟨by omega,by omega⟩
 have j5:I64 (t+1):=⟨by omega,by omega⟩
 have j6:I64 (t+l.trav-1):=⟨by omega,by omega⟩
 refine gv (f:=191) ?_
 refine rnT ?_
 refine TW.ld rfl (B1.fld rfl) ?_
 refine TW.ld rfl (B2.cell 0) ?_
 refine rnT ?_
 refine TW.ld rfl (B1.fld rfl) ?_
 refine rnT ?_
 refine TW.ld rfl (B2.cell 0) ?_
 refine rnT ?_
 refine TW.build [0,1,2] _ [.int .i64 l.frm,.int .i64 (t-l.trav+1),.int .i64 (t-1),.slice none 0 0] rfl rfl rfl (Args.cons rfl ct (Args.cons rfl ct (Args.cons rfl ct Args.nil))) (by kernel_rfl) ?_
 refine TW.newVar rfl zc60 rfl sz60 rfl rfl ?_
 rintro g3 w3 f3
 refine rnT ?_
 refine TW.ld rfl ((B1.next f3.below).fld rfl) ?_
 refine TW.ld rfl ((B2.next f3.below).cell 0) ?_
 refine rnT ?_
 refine TW.ld rfl ((B2.next f3.below).cell 0) ?_
 refine rnT ?_
 refine TW.ld rfl ((B1.next f3.below).fld rfl) ?_
 refine rnT ?_
 refine TW.build [0,1,2] _ [.int .i64 l.to,.int .i64 (t+1),.int .i64 (t+l.trav-1),.slice none 0 0] rfl rfl rfl (Args.cons rfl ct (Args.cons rfl ct (Args.cons rfl ct Args.nil))) (by kernel_rfl) ?_
 refine TW.newVar rfl zc60 rfl sz60 rfl rfl ?_
 rintro g4 w4 f4
 refine rnT ?_
 have b14:=f3.below.step f4.below
 refine TW.ld rfl ((B1.next b14).fld rfl) ?_
 refine TW.build [0,1,2] _ [.int .i64 (r.length:Int),.int .i64 ((r.length:Int)+1),.int .i64 l.trav] rfl rfl rfl (Args.cons rfl ct (Args.cons rfl ct (Args.cons rfl ct Args.nil))) (by kernel_rfl) ?_
 refine TW.newVar rfl zc133 rfl sz133 rfl rfl ?_
 rintro g5 w5 f5
 refine rnT ?_
 refine CW.pk [0,1,2,4,5,6,7,8] rfl ?_
 refine CW.draw mixed (by kernel_rfl) ?_
 refine rnD ?_
 have b15:=b14.step f5.below
 have B3:=(f3.blk.next f4.below).next f5.below
 have B4:=f4.blk.next f5.below
 have B5:=f5.blk
 have r5:=se_step hr b15
 refine DW.ldS rfl (fun _ _ hv=>B3.fld hv) ?_
 refine DW.ldS rfl (fun _ _ hv=>B4.fld hv) ?_
 refine DW.buildSlice 60 _ rfl rfl rfl eo31 (DArgs.cons rfl ct (DArgs.cons rfl ct DArgs.nil)) rfl rfl rfl rfl rfl ?_
 refine DW.buildSliceB 31 _ (fun u W=>SRs W u [r,[lvE l t,arE l t]]) (fun _ _ _ hb h=>srs_step h hb) rfl rfl rfl eo98 (PArgs.cons rfl ct (PArgs.cons rfl ct PArgs.nil)) rfl rfl rfl (fun _ vs w' hb' hs=> ?_) ?_
 ·obtain ⟨_,b,rfl,rfl,⟨gb,rfl,Bb⟩⟩:=Sats.two hs
  refine ⟨by simp [Value.cells],fun gg w'' ff=> ?_⟩
  have e2:SE w'' (.slice (some ⟨gb,0,none⟩) 2 2) [lvE l t,arE l t]:=litEv [([.int .i64 l.frm,.int .i64 (t-l.trav+1),.int .i64 (t-1),.slice none 0 0],lvE l t),([.int .i64 l.to,.int .i64 (t+1),.int .i64 (t+l.trav-1),.slice none 0 0],arE l t)] (Bb.next ff.below) rfl (fun p hp=>by
   simp only [List.mem_cons,List.not_mem_nil,or_false] at hp
   rcases hp with rfl|rfl
   ·exact ⟨_,rfl,i1,j3,j4,SL.nil _ _ _⟩
   ·exact ⟨_,rfl,i2,j5,j6,SL.nil _ _ _⟩) (by simp)
  have r2:SE w'' (.slice R r.length rcap) r:=se_step r5 (hb'.step ff.below)
  exact OwnS.toSLp (T:=sliceT evT) (F:=fun k=>k<w''.heap.size) (w:=w'') (e:=31) (n:=2) [([.slice R r.length rcap],r),([.slice (some ⟨gb,0,none⟩) 2 2],[lvE l t,arE l t])] (fun p hp=>by
   simp only [List.mem_cons,List.not_mem_nil,or_false] at hp
   rcases hp with rfl|rfl
   ·exact ⟨_,rfl,r2⟩
   ·exact ⟨_,rfl,e2⟩) (by decide) (OwnS.of_blk ff.blk rfl (by omega)) rfl (fun q hq=>by simp [Value.ownBlock] at hq; subst hq; exact ff.blk.lt) (by simp)
 refine DW.callP (.pr (fun u W=>SE W u (r++ [lvE l t,arE l t]))) (fun _ _ _ hb h=>se_step h hb) rfl rfl en113 rfl ct (PArgs.cons rfl ct PArgs.nil) (fun _ w' hb' vs hs=> ?_) ?_
 ·obtain ⟨u,rfl,hu⟩:=Sats.one hs
  exact concatE_c hu (by omega) (by simp)
 refine DW.ldS rfl (fun _ _ hv=>B5.fld hv) ?_
 refine DW.buildSlice 133 _ rfl rfl rfl eo129 (DArgs.cons rfl ct DArgs.nil) rfl rfl rfl rfl rfl ?_
 refine DW.assignP rfl rfl rfl ct (fun _ _ _ hb h=>se_step h hb) ?_
 refine DW.assignP rfl rfl rfl ct (Lies.mono _ _ _) ?_
 refine DW.nil (DW.finP [4,5] rfl fun vs w9 hb9 hs9=>KW.then_ ?_)
 obtain ⟨v4,v5,rfl,h4,h5⟩:=Sats.two hs9
 refine CW.ret ?_
 obtain ⟨gl,rfl,hBl⟩:=h5
 refine rt2 rfl ⟨b15.step hb9,_,_,rfl,h4,⟨gl,0,none⟩,1,rfl,⟨fun j u hj=>hBl.fld hj⟩⟩
theorem can1_c {gf gd k:Nat} {caps:List Value} {dv:Value} {d:Dist} {rs:List (List Ev)} (hf:Blk w gf 101 [.func (.func k) #[] caps.toArray]) (hd:Blk w gd 30 [dv]) (hD:SD w dv d) (hk:enters Tryz.prog k=true) (hF:FormOK w k caps K) (hKI:K.OK) (hlen: ∀r∈rs,r.length≤14) :
  PredRV w 111 [.pointer (some ⟨gf,0,none⟩),.pointer (some ⟨gd,0,none⟩)] rs (K.b d):=by
 intro r hr rv w1 hb1 hrv
 have hrv1:SE w1 rv r:=hrv.wider fun q hq=>Nat.lt_of_lt_of_le hq hb1.size
 refine gv (f:=111) ?_
 refine rnT ?_
 refine TW.pk [0,1,2,4] rfl ?_
 refine TW.ld rfl ((hf.next hb1).cell 0) ?_
 refine rnT ?_
 refine TW.call0 rfl rfl hk rfl (Args.cons rfl ct Args.nil) (hF r rv _ hb1 hrv1 (hlen r hr)) ?_
 rintro y2 w2 ⟨b2,ev,lg,rfl,hR⟩
 have B2:=(hd.next hb1).next b2
 have hD2:=sd_step hD (hb1.step b2)
 refine rnT ?_
 refine TW.ld rfl (B2.cell 0) ?_
 refine rnT ?_
 have key:Gives Tryz.prog 33 #[dv,ev,lg] w2 fun x w'=>Below w2.heap.size w2 w'∧ ∃v,x= .tuple #[v,.bool (K.b d r)]:=by
  cases K with
  | «at» o f t =>
   obtain ⟨h1,rfl⟩:=hR
   exact fit_c hD2 h1
  | on l t =>
   obtain ⟨h1,la,lc,rfl,h2⟩:=hR
   exact fitJ_c hD2 h1 h2 rfl rfl ⟨hKI.2.2.1,hKI.2.2.2.1⟩
 refine TW.cl rfl (key) ?_
 rintro y3 w3 ⟨b3,tv,rfl⟩
 refine rnT ?_
 refine rt1 rfl ⟨b2.step b3,rfl⟩
theorem can_c {dv sv:Value} {d:Dist} {rs:List (List Ev)} {k:FuncId} {caps:List Value} (hD:SD w dv d) (hS:SRs w sv rs) (hk:enters Tryz.prog k=true) (hF:FormOK w k caps K) (hKI:K.OK) (hlen: ∀r∈rs,r.length≤14) :
  Gives Tryz.prog 58 #[dv,sv,.func (.func k) #[] caps.toArray] w fun x w'=>Below w.heap.size w w'∧x= .bool (canB d rs K):=by
 obtain ⟨A,cap,rfl,_⟩:=hD.form
 refine gv (f:=58) ?_
 refine rnT ?_
 refine TW.box rfl rfl rfl rfl ?_
 rintro g1 w1 f1
 refine TW.box rfl rfl rfl rfl ?_
 rintro g2 w2 f2
 refine rnT ?_
 refine TW.makeFunc rfl rfl (Args.cons rfl ct (Args.cons rfl ct Args.nil)) ?_
 have b2:=f1.below.step f2.below
 refine TW.cl rfl (someRV_c (srs_step hS b2) en111 (can1_c f2.blk (f1.blk.next f2.below) (sd_step hD b2) hk (hF.step b2) hKI hlen)) ?_
 rintro y3 w3 ⟨b3,rfl⟩
 refine rnT ?_
 refine rt1 rfl ⟨b2.step b3,rfl⟩
def FormAt (b:Nat) (W:World) (v:Value) (K:Knd):Prop:=match K with
 | .at o f t=> ∃g1 g2 g3,v= .func (.func 112) #[] [.pointer (some ⟨g1,0,none⟩),.pointer (some ⟨g2,0,none⟩),.pointer (some ⟨g3,0,none⟩)].toArray∧Blk W g1 3 [.int .i64 o]∧Blk W g2 3 [.int .i64 f]∧Blk W g3 3 [.int .i64 t]∧b≤g1∧b≤g2∧b≤g3
 | .on l t=> ∃g1 g2,v= .func (.func 191) #[] [.pointer (some ⟨g1,0,none⟩),.pointer (some ⟨g2,0,none⟩)].toArray∧Blk W g1 113 (liV l)∧Blk W g2 3 [.int .i64 t]∧b≤g1∧b≤g2
theorem FormAt.ok {b:Nat} {W:World} {v:Value} (h:FormAt b W v K) (hI:K.OK): ∃k caps,v= .func (.func k) #[] caps.toArray∧enters Tryz.prog k=true∧FormOK W k caps K:=by
 cases K with
 | «at» o f t =>
  obtain ⟨g1,g2,g3,rfl,h1,h2,h3,_⟩:=h
  exact ⟨_,_,rfl,en112,visit1_c h1 h2 h3 hI⟩
 | on l t =>
  obtain ⟨g1,g2,rfl,h1,h2,_⟩:=h
  exact ⟨_,_,rfl,en191,ride1_c h1 h2 hI⟩
theorem FormAt.ext {b n:Nat} {W W':World} {v:Value} {K:Knd} (h:FormAt b W v K) (hx:ExtF n W W'):FormAt b W' v K:=by
 cases K with
 | «at» o f t =>
  obtain ⟨g1,g2,g3,rfl,h1,h2,h3,h4⟩:=h
  exact ⟨g1,g2,g3,rfl,h1.ext hx,h2.ext hx,h3.ext hx,h4⟩
 | on l t =>
  obtain ⟨g1,g2,rfl,h1,h2,h4⟩:=h
  exact ⟨g1,g2,rfl,h1.ext hx,h2.ext hx,h4⟩
theorem visit_c {o f:Int}:Gives Tryz.prog 60 #[.int .i64 o,.int .i64 f,.int .i64 t] w fun u w'=>Below w.heap.size w w'∧FormAt w.heap.size w' u (.at o f t):=by
 refine gv (f:=60) ?_
 refine rnT ?_
 refine TW.box rfl rfl rfl rfl ?_
 rintro g1 w1 f1
 refine TW.box rfl rfl rfl rfl ?_
 rintro g2 w2 f2
 refine TW.box rfl rfl rfl rfl ?_
 rintro g3 w3 f3
 refine rnT ?_
 refine TW.makeFunc rfl rfl (Args.cons rfl ct (Args.cons rfl ct (Args.cons rfl ct Args.nil))) ?_
 refine rnT ?_
 have s1:=f1.at_
 have s2:=f2.at_
 have s3:=f3.at_
 have s4:=f1.size
 have s5:=f2.size
 refine rt1 rfl ⟨f1.below.step (f2.below.step f3.below),g1,g2,g3,rfl,f1.blk.next (f2.below.step f3.below),f2.blk.next f3.below,f3.blk,by omega,by omega,by omega⟩
theorem ride_c {l:Li}:Gives Tryz.prog 116 #[.agg (liV l).toArray,.int .i64 t] w fun u w'=>Below w.heap.size w w'∧FormAt w.heap.size w' u (.on l t):=by
 refine gv (f:=116) ?_
 refine rnT ?_
 refine TW.box rfl rfl rfl rfl ?_
 rintro g1 w1 f1
 refine TW.box rfl rfl rfl rfl ?_
 rintro g2 w2 f2
 refine rnT ?_
 refine TW.makeFunc rfl rfl (Args.cons rfl ct (Args.cons rfl ct Args.nil)) ?_
 refine rnT ?_
 have s1:=f1.at_
 have s2:=f2.at_
 have s4:=f1.size
 refine rt1 rfl ⟨f1.below.step f2.below,g1,g2,rfl,f1.blk.next f2.below,f2.blk,by omega,by omega⟩
theorem places_c {v:NV}:Gives Tryz.prog 63 #[.agg v.cells.toArray,.int .i64 t] w fun u w'=>Below w.heap.size w w'∧ ∃g1 g2,u= .func (.func 115) #[] [.pointer (some ⟨g1,0,none⟩),.pointer (some ⟨g2,0,none⟩)].toArray∧Blk w' g1 29 v.cells∧Blk w' g2 3 [.int .i64 t]∧w.heap.size≤g1∧w.heap.size≤g2:=by
 refine gv (f:=63) ?_
 refine rnT ?_
 refine TW.box rfl rfl rfl rfl ?_
 rintro g1 w1 f1
 refine TW.box rfl rfl rfl rfl ?_
 rintro g2 w2 f2
 refine rnT ?_
 refine TW.makeFunc rfl rfl (Args.cons rfl ct (Args.cons rfl ct Args.nil)) ?_
 refine rnT ?_
 have s1:=f1.at_
 have s2:=f2.at_
 have s4:=f1.size
 refine rt1 rfl ⟨f1.below.step f2.below,g1,g2,rfl,f1.blk.next f2.below,f2.blk,by omega,by omega⟩
end Go.Proofs.YtobaafdejnimkaaGreatDoor
namespace Go.PF
open Go.RowKit
section
variable {P:Program} {r:Option Nat} {Q:Exit→Act→World→Prop} {N:Nat} {ds:List Deferred} {ops rest:List Oper} {E:Env} {D:DE} {w:World} {G:Option Bool} {Fin:DE→Prop} {md:Mode}
variable {d:Option Tmp} {ty:TypeId} {pos:String} {af:Array Edge} {gu:Option (Nat×Bool)}
variable {x y z:Operand} {cx cy cz:Option Bool} {ρ:Operand→Value}
theorem run_loadVarA {t e:TypeId} {n:Nat} (hu:P.underlying t=some (.array n e)) {cs:List Value} (hs:(P.info? t).map (·.size)=some cs.length) {ad:Addr} (hc: ∀j v,cs[j]?=some v→w.cell? (ad.add j)=some v) :
  (loadVar t ad).run P w= .ok (.agg cs.toArray) w:=by
 simp [loadVar,isAgg,run_underlying hu,run_sizeOf hs,run_loadCells_list w ad cs hc]
theorem X.loadA {t e:TypeId} {ad:Addr} {n:Nat} {cs:List Value} (hu:P.underlying t=some (.array n e)) (hs:(P.info? t).map (·.size)=some cs.length) (hx:ρ x= .pointer (some ad)) (hc: ∀j v,cs[j]?=some v→w.cell? (ad.add j)=some v) :
  (execOp ρ ⟨d,.load t x,ty,pos,af,gu⟩).run P w= .ok (.value (.agg cs.toArray)) w:=by
 simp only [execOp]; rw [hx]; simp [Instr.loadAt,Instr.sureAddr,run_loadVarA hu hs hc]
theorem TW.loadA {t e:TypeId} {ad:Addr} {m n:Nat} (cs:List Value) (hg:gd ops E gu=some G) (hd:okDst N d=true) (hu:P.underlying t=some (.array m e)) (hs:(P.info? t).map (·.size)=some n)
  (hx:ev E x=some (cx,.pointer (some ad))) (ix:Cnd G→Cnd cx) (hc:Cnd G→ ∀j v,cs[j]?=some v→w.cell? (ad.add j)=some v) (hl:cs.length=n)
  (next:TW P r Q N ds ops rest (ins E d G (.agg cs.toArray)) w):TW P r Q N ds ops (⟨d,.load t x,ty,pos,af,gu⟩::rest) E w :=
 TW.val hg hd rfl (fun hG _ ha=>X.loadA hu (hl ▸ hs) (ha.eval hx (ix hG)) (hc hG)) next
theorem DW.loadA {t e:TypeId} {ad:Addr} {m n:Nat} (cs:List Value) (hg:dgd ops D gu=some G) (hd:okDst N d=true) (hu:P.underlying t=some (.array m e)) (hs:(P.info? t).map (·.size)=some n)
  (hx:dev D x=some (cx,.ex (.pointer (some ad)))) (ix:Cnd G→Cnd cx) (hc:Cnd G→ ∀j v,cs[j]?=some v→w.cell? (ad.add j)=some v) (hl:cs.length=n)
  (next:DW P N ds md ops w Fin rest (dins D d G (.ex (.agg cs.toArray)))):DW P N ds md ops w Fin (⟨d,.load t x,ty,pos,af,gu⟩::rest) D :=
 DW.val hg hd rfl (fun hG _ _ hb ha=>X.loadA hu (hl ▸ hs) (ha.eval (o:=⟨d,.load t x,ty,pos,af,gu⟩) hx (by simp [Op.operands]) (ix hG)) (fun j v hj=>(hb.cell (block_lt_of_cell (hc hG j v hj))).trans (hc hG j v hj))) next
theorem isAgg_one {e:TypeId} (h1:one P e=true):(isAgg e).run P w= .ok false w:=by
 unfold one at h1
 cases hu':P.underlying e with
 | none=>simp [hu'] at h1
 | some dsc=>cases dsc<;>first|(simp [hu'] at h1; done)|simp [isAgg,run_underlying hu']
theorem X.indexV {t e:TypeId} {l:Nat} {k:IntKind} {i:Int} {cs:List Value} {v:Value} (ht:P.underlying t=some (.array l e)) (h1:one P e=true) (hs:(P.info? e).map (·.size)=some 1) (hx:ρ x= .agg cs.toArray) (hy:ρ y= .int k i) (hi:0≤i∧i<(l:Int)) (hv:cs[i.toNat]?=some v) :
  (execOp ρ ⟨d,.index t x y,ty,pos,af,gu⟩).run P w= .ok (.value v) w:=by
 simp only [execOp]; rw [hx,hy]
 simp [Instr.index,run_underlying ht,asIntOf,hi,run_sizeOf hs,part,isAgg_one h1,hv]
theorem TW.indexV {t e:TypeId} {l:Nat} {k:IntKind} {i:Int} {cs:List Value} {v:Value} (hg:gd ops E gu=some G) (hd:okDst N d=true) (ht:P.underlying t=some (.array l e)) (h1:one P e=true) (hs:(P.info? e).map (·.size)=some 1)
  (hx:ev E x=some (cx,.agg cs.toArray)) (ix:Cnd G→Cnd cx) (hy:ev E y=some (cy,.int k i)) (iy:Cnd G→Cnd cy) (hi:Cnd G→0≤i∧i<(l:Int)) (hv:Cnd G→cs[i.toNat]?=some v)
  (next:TW P r Q N ds ops rest (ins E d G v) w):TW P r Q N ds ops (⟨d,.index t x y,ty,pos,af,gu⟩::rest) E w :=
 TW.val hg hd rfl (fun hG _ ha=>X.indexV ht h1 hs (ha.eval hx (ix hG)) (ha.eval hy (iy hG)) (hi hG) (hv hG)) next
variable {fn:Func} {R:Value→World→Prop}
theorem retCA {s:Nat} {t e t1:TypeId} {m g n:Nat} {cs:List Value} (hres:fn.results= #[.cell s t]) (hu:P.underlying t=some (.array m e)) (hs:(P.info? t).map (·.size)=some n) (hn:cs.length=n) (hl:look E s=some (none,.pointer (some ⟨g,0,none⟩))) (hB:Blk w g t1 cs) (hR:R (.agg cs.toArray) w) :
  KW N [] (bodyPost P fn (fun e w'=> ∃v,e= .returned v∧R v w') .ret) E w:=fun a ha=>by
 refine bodyPost_ret (v:= .agg cs.toArray) ?_ ha.defers ⟨_,rfl,hR⟩
 have e:a.tmps.getD s undef= .pointer (some ⟨g,0,none⟩):=(ha.slots s none _ hl).1 trivial
 simp only [Array.getD_eq_getD_getElem?] at e
 subst hn
 simp [results,hres,e,asAddr,run_loadVarA hu hs (fun j v hj=>hB.fld hj)]
end
end Go.PF
namespace Go.Proofs.YtobaafdejnimkaaGreatDoor
open Go.PF Go.RowKit Go.Ord
attribute [local irreducible] TW CW KW DW
variable {w:World} {i:Int} {A:Option Addr} {n c:Nat} {F:Nat→Prop} {v:NV} {N:Net}
structure Tabs (w:World):Prop where
 key: ∀(i:Nat) (s:ByteArray),keys11[i]?=some s→w.cell? ⟨0,i,none⟩=some (.string s)
theorem Tabs.below {w':World} (h:Tabs w) (hb:Below w.heap.size w w'):Tabs w':=⟨fun i s hs=>(hb.cell (block_lt_of_cell (h.key i s hs))).trans (h.key i s hs)⟩
theorem listB (a b:ByteArray):(a.toList==b.toList)=true↔a=b:=by
 rw [beq_iff_eq]
 constructor
 ·intro h
  rw [ByteArray.toList_eq,ByteArray.toList_eq] at h
  exact ByteArray.ext (Array.ext' h)
 ·rintro rfl; rfl
theorem beqL (a b:ByteArray):(a.toList==b.toList)=decide (a=b):=by
 by_cases h:a=b
 ·rw [(listB a b).2 h,decide_eq_true h]
 ·rw [decide_eq_false h]
  cases h':(a.toList==b.toList) with
  | true=>exact absurd ((listB a b).1 h') h
  | false=>rfl
theorem isSmall_c {b:Nat}:Gives Tryz.prog 238 #[.int .u8 (b:Int)] w fun u w'=>Below w.heap.size w w'∧u= .bool (dec (isSm b)):=by
 refine gv (f:=238) ?_
 refine rnT ?_
 refine rt1 rfl ⟨Below.refl _ _,?_⟩
 by_cases h:isSm b
 ·rw [dec_pos h]
  unfold isSm at h
  simp
  omega
 ·rw [dec_neg h]
  unfold isSm at h
  simp
  omega
theorem isDigit_c {b:Nat}:Gives Tryz.prog 239 #[.int .u8 (b:Int)] w fun u w'=>Below w.heap.size w w'∧u= .bool (dec (isDg b)):=by
 refine gv (f:=239) ?_
 refine rnT ?_
 refine rt1 rfl ⟨Below.refl _ _,?_⟩
 by_cases h:isDg b
 ·rw [dec_pos h]
  unfold isDg at h
  simp
  omega
 ·rw [dec_neg h]
  unfold isDg at h
  simp
  omega
theorem isFrom_c {v a b:Int}:Gives Tryz.prog 205 #[.int .i64 v,.int .i64 a,.int .i64 b] w fun u w'=>Below w.heap.size w w'∧u= .bool (decide (a≤v∧v≤b)):=by
 refine gv (f:=205) ?_
 refine rnT ?_
 refine rt1 rfl ⟨Below.refl _ _,?_⟩
 by_cases h1:a≤v<;>by_cases h2:v≤b<;>simp [h1,h2]
theorem isMinute_c {v:Int}:Gives Tryz.prog 134 #[.int .i64 v] w fun u w'=>Below w.heap.size w w'∧u= .bool (decide (0≤v∧v≤1439)):=by
 refine gv (f:=134) ?_
 refine rnT ?_
 refine TW.cl rfl (isFrom_c) ?_
 rintro y1 w1 ⟨hb1,rfl⟩
 refine rnT ?_
 refine rt1 rfl ⟨hb1,rfl⟩
theorem isIndexO_c:Gives Tryz.prog 202 #[.int .i64 i,.slice A n c] w fun u w'=>Below w.heap.size w w'∧u= .bool (decide (0≤i∧i<(n:Int))):=by
 refine gv (f:=202) ?_
 refine rnT ?_
 refine rt1 rfl ⟨Below.refl _ _,?_⟩
 by_cases h1:0≤i<;>by_cases h2:i<(n:Int)<;>simp [h1,h2]
theorem isIndexC_c:Gives Tryz.prog 203 #[.int .i64 i,.slice A n c] w fun u w'=>Below w.heap.size w w'∧u= .bool (decide (0≤i∧i<(n:Int))):=by
 refine gv (f:=203) ?_
 refine rnT ?_
 refine rt1 rfl ⟨Below.refl _ _,?_⟩
 by_cases h1:0≤i<;>by_cases h2:i<(n:Int)<;>simp [h1,h2]
theorem isIndexF_c:Gives Tryz.prog 65 #[.int .i64 i,.slice A n c] w fun u w'=>Below w.heap.size w w'∧u= .bool (decide (0≤i∧i<(n:Int))):=by
 refine gv (f:=65) ?_
 refine rnT ?_
 refine rt1 rfl ⟨Below.refl _ _,?_⟩
 by_cases h1:0≤i<;>by_cases h2:i<(n:Int)<;>simp [h1,h2]
theorem isCode_c {s:ByteArray}:Gives Tryz.prog 204 #[.string s] w fun u w'=>Below w.heap.size w w'∧u= .bool (dec (CodeOK s)):=by
 refine gv (f:=204) ?_
 refine rnT ?_
 refine CW.pk [0,2,12] rfl ?_
 refine CW.cond rfl (fun hbad=> ?_) (fun hgood=> ?_)
 ·refine rnT ?_
  refine rt1 rfl ⟨Below.refl _ _,?_⟩
  rw [dec_neg fun h=> ?_]
  have:=h.n1
  have:=h.n2
  simp at hbad
  omega
 have hsz:1≤s.size∧s.size≤8:=by simp at hgood; omega
 refine CW.skip (KW.then_ (CW.seq (CW.seq (CW.region ?_))))
 refine TW.v V.move rfl ⟨ct,trivial⟩ (fun _=>trivial) ?_
 refine TW.bytesOf rfl rfl Tryz.underlying9 Tryz.underlying281 Tryz.underlying5 rfl ?_
 rintro g c w1 hs1 hg1 hb1 hcell
 refine rnT ?_
 refine CW.lp [14,15] (fun k:Nat=> [(16,none,.int .i64 (k:Int))])
  (fun k W=>k≤s.size∧Below w1.heap.size w1 W∧ ∀i,i<k→(65≤byteA s i∧byteA s i≤90)∨isDg (byteA s i)) (fun k=>s.size-k) 0 ⟨Nat.zero_le _,Below.refl _ _,fun i hi=>by omega⟩ ?_
 rintro k W ⟨hk,hB,hok⟩
 refine rnT ?_
 refine CW.condP rfl (fun hlt=> ?_) (fun hge=> ?_)
 ·have hks:k<s.size:=by omega
  have hc:W.cell? (Addr.add ⟨g,0,none⟩ ((k:Int).toNat*1))=some (.int .u8 ((byteA s k:Nat):Int)):=by
   have h1:=hcell k hks
   rw [show (k:Int).toNat*1=k by omega,addr0]
   exact (hB.cell (block_lt_of_cell h1)).trans h1
  refine rnT ?_
  refine TW.ld rfl hc ?_
  refine rnT ?_
  refine TW.cl rfl (isDigit_c) ?_
  rintro y2 w2 ⟨hb2,rfl⟩
  refine rnT ?_
  refine CW.pk [4,14,15,16,30] rfl ?_
  refine CW.cond rfl (fun hbad=> ?_) (fun hgood2=> ?_)
  ·refine rnT ?_
   refine rt1 rfl ⟨(hb1.step hB).step hb2,?_⟩
   rw [dec_neg fun h=> ?_]
   have:=h.all k hks
   by_cases hd:isDg (byteA s k)
   ·rw [dec_pos hd] at hbad
    simp at hbad
   ·rw [dec_neg hd] at hbad
    rcases this with h|h
    ·simp at hbad
     omega
    ·exact hd h
  ·refine rnT ?_
   refine KW.rd (k+1) ⟨by omega,hB.step hb2,fun i hi=> ?_⟩
   rcases Nat.lt_or_ge i k with h|h
   ·exact hok i h
   ·have:i=k:=by omega
    subst this
    by_cases hd:isDg (byteA s i)
    ·exact .inr hd
    ·rw [dec_neg hd] at hgood2
     simp at hgood2
     omega
 ·have hke:k=s.size:=by omega
  subst hke
  refine rnT ?_
  refine rt1 rfl ⟨hb1.step hB,by rw [dec_pos ⟨hsz.1,hsz.2,hok⟩]⟩
theorem isName_c {s:ByteArray} (ht:Tabs w):Gives Tryz.prog 193 #[.string s] w fun u w'=>Below w.heap.size w w'∧u= .bool (dec (NameOK keys11 s)):=by
 refine gv (f:=193) ?_
 refine rnT ?_
 refine TW.callF (cap:= []) rfl rfl en238 rfl ct (Args.cons rfl id Args.nil) (fun _=>isSmall_c (b:=byteA s 0)) ?_
 rintro w1 c1
 refine rnT ?_
 refine CW.pk [0,2,20] rfl ?_
 refine CW.cond rfl (fun hbad=> ?_) (fun hgood=> ?_)
 ·refine rnT ?_
  refine rt1 rfl ⟨c1,?_⟩
  rw [dec_neg fun h=> ?_]
  have h1:=h.n1
  have h2:=h.n2
  rw [dec_pos h.fst] at hbad
  simp at hbad
  omega
 have hsz:(1≤s.size∧s.size≤16)∧isSm (byteA s 0):=by
  simp only [Bool.or_eq_false_iff,decide_eq_false_iff_not,Bool.not_eq_false'] at hgood
  exact ⟨by omega,dec_iff.1 hgood.2⟩
 refine CW.skip (KW.then_ (CW.seq (CW.seq (CW.region ?_))))
 refine TW.v V.move rfl ⟨ct,trivial⟩ (fun _=>trivial) ?_
 refine TW.bytesOf rfl rfl Tryz.underlying9 Tryz.underlying281 Tryz.underlying5 rfl ?_
 rintro g c w2 hs2 hg2 hb2 hcell
 refine rnT ?_
 refine CW.lp [0,22,23] (fun k:Nat=> [(24,none,.int .i64 (k:Int))])
  (fun k W=>k≤s.size∧Below w2.heap.size w2 W∧ ∀i,i<k→isSm (byteA s i)∨isDg (byteA s i)∨byteA s i=95) (fun k=>s.size-k) 0 ⟨Nat.zero_le _,Below.refl _ _,fun i hi=>by omega⟩ ?_
 rintro k W ⟨hk,hB,hok⟩
 refine rnT ?_
 refine CW.condP rfl (fun hlt=> ?_) (fun hge=> ?_)
 ·have hks:k<s.size:=by omega
  have hc:W.cell? (Addr.add ⟨g,0,none⟩ ((k:Int).toNat*1))=some (.int .u8 ((byteA s k:Nat):Int)):=by
   have h1:=hcell k hks
   rw [show (k:Int).toNat*1=k by omega,addr0]
   exact (hB.cell (block_lt_of_cell h1)).trans h1
  refine rnT ?_
  refine TW.ld rfl hc ?_
  refine rnT ?_
  refine TW.cl rfl (isSmall_c) ?_
  rintro y3 w3 ⟨c3,rfl⟩
  refine rnT ?_
  refine TW.callF (cap:= []) rfl rfl en239 rfl ct (Args.cons rfl id Args.nil) (fun _=>isDigit_c) ?_
  rintro w4 c4
  refine rnT ?_
  refine CW.pk [0,4,22,23,24,39] rfl ?_
  have hB4:=(hB.step c3).step c4
  refine CW.cond rfl (fun hbad2=> ?_) (fun hgood2=> ?_)
  ·refine rnT ?_
   refine rt1 rfl ⟨(c1.step hb2).step hB4,?_⟩
   rw [dec_neg fun h=> ?_]
   rcases h.all k hks with h|h|h
   ·rw [dec_pos h] at hbad2
    simp at hbad2
   ·rw [dec_pos h] at hbad2
    simp at hbad2
   ·simp [h] at hbad2
  ·refine rnT ?_
   refine KW.rd (k+1) ⟨by omega,hB4,fun i hi=> ?_⟩
   rcases Nat.lt_or_ge i k with h|h
   ·exact hok i h
   ·have:i=k:=by omega
    subst this
    by_cases h1:isSm (byteA s i)
    ·exact .inl h1
    ·by_cases h2:isDg (byteA s i)
     ·exact .inr (.inl h2)
     ·rw [dec_neg h1,dec_neg h2] at hgood2
      simp at hgood2
      exact .inr (.inr (by omega))
 have hke:k=s.size:=by omega
 subst hke
 have hbW:=(c1.step hb2).step hB
 have htW:=ht.below hbW
 have hkl:keys11.length=17:=rfl
 have hkey: ∀(j:Nat) (v:Value),(keys11.map Value.string)[j]?=some v→W.cell? (Addr.add ⟨0,0,none⟩ j)=some v:=fun j v hj=>by
  rw [List.getElem?_map] at hj
  obtain ⟨z,hz,rfl⟩:=Option.map_eq_some_iff.1 hj
  rw [addr0]
  exact htW.key j z hz
 refine rnT ?_
 refine TW.loadA _ rfl rfl Tryz.underlying282 sz282 rfl ct (fun _=>hkey) rfl ?_
 refine rnT ?_
 refine CW.lp [0,41] (fun k:Nat=> [(42,none,.int .i64 (k:Int))])
  (fun k W'=>k≤17∧W'=W∧ ∀i x,i<k→keys11[i]?=some x→s≠x) (fun k=>17-k) 0 ⟨Nat.zero_le _,rfl,fun i x hi=>by omega⟩ ?_
 rintro k W ⟨hk,rfl,hno⟩
 refine rnT ?_
 refine CW.condP rfl (fun hlt=> ?_) (fun hge=> ?_)
 ·obtain ⟨x,hx,hxm⟩:=getx (l:=keys11) (k:=k) (by omega)
  have hxv:(keys11.map Value.string)[(k:Int).toNat]?=some (.string x):=by rw [show (k:Int).toNat=k by omega,List.getElem?_map,hx]; rfl
  refine CW.skip (KW.then_ (CW.seq (CW.block (CW.seq (CW.region ?_)))))
  refine TW.indexV rfl rfl Tryz.underlying282 one9 sz9 rfl ct rfl ct (fun _=>by (try dsimp only); omega) (fun _=>hxv) ?_
  refine rnT ?_
  refine CW.pk [0,6,41,42,47] rfl ?_
  rw [beqL]
  refine CW.cond rfl (fun heq=> ?_) (fun hne=> ?_)
  ·refine rnT ?_
   refine rt1 rfl ⟨hbW,?_⟩
   rw [dec_neg fun h=> ?_]
   exact h.nokey (of_decide_eq_true heq ▸ hxm)
  ·refine rnT ?_
   refine KW.rd (k+1) ⟨by omega,rfl,fun i z hi hz=> ?_⟩
   rcases Nat.lt_or_ge i k with h|h
   ·exact hno i z h hz
   ·have:i=k:=by omega
    subst this
    rw [hx] at hz
    cases hz
    exact of_decide_eq_false hne
 ·refine rnT ?_
  have hnk:s ∉ keys11:=fun h=>by
   obtain ⟨i,hi⟩:=List.mem_iff_getElem?.1 h
   exact hno i s (by have:=(List.getElem?_eq_some_iff.1 hi).1; omega) hi rfl
  refine rt1 rfl ⟨hbW,by rw [dec_pos ⟨hsz.1.1,hsz.1.2,hsz.2,hok,hnk⟩]⟩
def calV (c:Cal) (u v:Value):List Value:= [.int .i64 c.zone,u,v]
structure CalIn (F:Nat→Prop) (w:World) (u v:Value) (c:Cal):Prop where
 z:I64 c.zone
 wk:SL boolT F w u c.week
 hol:SL intT F w v c.hol
theorem CalIn.below {F:Nat→Prop} {w w':World} {u v:Value} {c:Cal} (h:CalIn F w u v c) (hb:Below w.heap.size w w'):CalIn F w' u v c:=⟨h.z,h.wk.below hb,h.hol.below hb⟩
theorem calValid_c {u v:Value} {c:Cal} (h:CalIn F w u v c):Gives Tryz.prog 119 #[.agg (calV c u v).toArray] w fun x w'=>Below w.heap.size w w'∧x= .bool (dec (CalOK c)):=by
 obtain ⟨A,cap,rfl,_⟩:=h.wk.form
 obtain ⟨B,bcap,rfl,_⟩:=h.hol.form
 refine gv (f:=119) ?_
 refine rnT ?_
 refine TW.box rfl rfl rfl rfl ?_
 rintro g1 w1 f1
 refine rnT ?_
 have hB:=f1.blk
 have h1:=h.below f1.below
 refine TW.ld rfl (hB.fld rfl) ?_
 refine rnT ?_
 refine TW.ld rfl (hB.fld rfl) ?_
 refine rnT ?_
 refine TW.ld rfl (hB.fld rfl) ?_
 refine rnT ?_
 refine TW.ld rfl (hB.fld rfl) ?_
 refine rnT ?_
 refine CW.pk [0,1,2,23] rfl ?_
 refine CW.cond rfl (fun hbad=> ?_) (fun hgood=> ?_)
 ·refine rnT ?_
  refine rt1 rfl ⟨f1.below,?_⟩
  rw [dec_neg fun h=> ?_]
  have q1:=h.z1
  have q2:=h.z2
  have q3:=h.wk
  have q4:=h.few
  simp at hbad
  omega
 have hg:(-720≤c.zone∧c.zone≤840)∧c.week.length=7∧c.hol.length≤40:=by simp at hgood; omega
 refine rnT ?_
 refine CW.lp [1] (fun k:Nat=> [(3,none,.int .i64 ((k:Int)+1))])
  (fun k W=>k≤c.hol.length∧Below w1.heap.size w1 W∧ ∀(i:Nat) (x y:Int),i<k→c.hol[i]?=some x→c.hol[i+1]?=some y→x<y) (fun k=>c.hol.length-k) 0 ⟨Nat.zero_le _,Below.refl _ _,fun i x y hi=>by omega⟩ ?_
 rintro k W ⟨hk,hBW,hinc⟩
 have hB2:=hB.next hBW
 refine rnT ?_
 refine TW.ld rfl (hB2.fld rfl) ?_
 refine rnT ?_
 refine CW.condP rfl (fun hlt=> ?_) (fun hge=> ?_)
 ·obtain ⟨x,hx,_⟩:=getx (l:=c.hol) (k:=k) (by omega)
  obtain ⟨y,hy,_⟩:=getx (l:=c.hol) (k:=k+1) (by omega)
  obtain ⟨ad,rfl⟩:=h.hol.addr (by omega)
  have hyc:W.cell? (ad.add (((k:Int)+1).toNat*1))=some (.int .i64 y):=by
   have:=(h1.hol.below hBW).getI hy
   rw [show ((k+1:Nat):Int)=(k:Int)+1 by omega] at this
   exact this
  have hxc:W.cell? (ad.add (((k:Int)+1-1).toNat*1))=some (.int .i64 x):=by
   have:=(h1.hol.below hBW).getI hx
   rw [show ((k:Nat):Int)=(k:Int)+1-1 by omega] at this
   exact this
  refine rnT ?_
  refine CW.draw mixed (by kernel_rfl) ?_
  refine rnD ?_
  refine DW.ld rfl (hB2.fld rfl) ?_
  refine rnD ?_
  refine DW.ld rfl hyc ?_
  refine rnD ?_
  refine DW.ld rfl (hB2.fld rfl) ?_
  refine rnD ?_
  refine DW.ld rfl hxc ?_
  refine rnD ?_
  refine DW.fi [1,3,42] rfl fun w3 b3=> ?_
  refine KW.then_ ?_
  refine CW.condP rfl (fun hbad2=> ?_) (fun hgood2=> ?_)
  ·refine rnT ?_
   refine rt1 rfl ⟨(f1.below.step hBW).step b3,?_⟩
   rw [dec_neg fun h=> ?_]
   have:=h.inc k x y hx hy
   omega
  ·refine rnT ?_
   rw [show ((k:Int)+1+1)=((k+1:Nat):Int)+1 by omega]
   refine KW.rd (k+1) ⟨by omega,hBW.step b3,fun i p q hi hp hq=> ?_⟩
   rcases Nat.lt_or_ge i k with h|h
   ·exact hinc i p q h hp hq
   ·have:i=k:=by omega
    subst this
    rw [hx] at hp
    rw [hy] at hq
    cases hp
    cases hq
    omega
 ·refine rnT ?_
  refine rt1 rfl ⟨f1.below.step hBW,?_⟩
  rw [dec_pos ⟨hg.1.1,hg.1.2,hg.2.1,hg.2.2,fun i x y hx hy=>hinc i x y (by have:=(List.getElem?_eq_some_iff.1 hy).1; omega) hx hy⟩]
def ofV (o:Of) (v:Value):List Value:= [.string o.name,.int .i64 o.op,.int .i64 o.cal,.int .i64 o.pock,.int .i64 o.pass,.int .i64 o.mins,v]
structure OfIn (F:Nat→Prop) (w:World) (v:Value) (o:Of):Prop where
 nm:o.name.size≤9223372036854775807
 i1:I64 o.op
 i2:I64 o.cal
 i3:I64 o.pock
 i4:I64 o.pass
 i5:I64 o.mins
 cd:SL strT F w v o.codes
theorem OfIn.below {F:Nat→Prop} {w w':World} {v:Value} {o:Of} (h:OfIn F w v o) (hb:Below w.heap.size w w'):OfIn F w' v o:=⟨h.nm,h.i1,h.i2,h.i3,h.i4,h.i5,h.cd.below hb⟩
structure NVform (v:NV) (N:Net):Prop where
 c: ∃A c,v.c= .slice A N.cals.length c
 n: ∃A c,v.n= .slice A N.names.length c
 o: ∃A c,v.o= .slice A N.ops.length c
 f: ∃A c,v.f= .slice A N.offs.length c
 l: ∃A c,v.l= .slice A N.lines.length c
 k: ∃A c,v.k= .slice A N.classes.length c
theorem NetIn.form {F:Nat→Prop} {w:World} {v:NV} {N:Net} (h:NetIn F w v N):NVform v N:=by
 obtain ⟨a1,b1,h1,_⟩:=h.c.form
 obtain ⟨a2,b2,h2,_⟩:=h.n.form
 obtain ⟨a3,b3,h3,_⟩:=h.o.form
 obtain ⟨a4,b4,h4,_⟩:=h.f.form
 obtain ⟨a5,b5,h5,_⟩:=h.l.form
 obtain ⟨a6,b6,h6,_⟩:=h.k.form
 exact ⟨⟨_,_,h1⟩,⟨_,_,h2⟩,⟨_,_,h3⟩,⟨_,_,h4⟩,⟨_,_,h5⟩,⟨_,_,h6⟩⟩
theorem goodOffice_c {ov:Value} {o:Of} (hN:NVform v N) (h:OfIn F w ov o):Gives Tryz.prog 126 #[.agg v.cells.toArray,.agg (ofV o ov).toArray] w fun x w'=>Below w.heap.size w w'∧x= .bool (dec (OfOK N o)):=by
 obtain ⟨A,cap,rfl,_⟩:=h.cd.form
 obtain ⟨vc,vn,vo,vf,vl,vk⟩:=v
 obtain ⟨⟨A1,c1,e1⟩,_,⟨A3,c3,e3⟩,_,_,_⟩:=hN
 dsimp only at e1 e3
 subst e1 e3
 refine gv (f:=126) ?_
 refine rnT ?_
 refine TW.box rfl rfl rfl rfl ?_
 rintro g1 w1 f1
 refine TW.box rfl rfl rfl rfl ?_
 rintro g2 w2 f2
 refine rnT ?_
 have hB1:=f1.blk.next f2.below
 have hB2:=f2.blk
 have b2:=f1.below.step f2.below
 have hcd:=h.cd.below b2
 refine TW.ld rfl (hB2.fld rfl) ?_
 refine rnT ?_
 refine TW.ld rfl (hB1.fld rfl) ?_
 refine TW.cl rfl (isIndexO_c) ?_
 rintro y3 w3 ⟨d3,rfl⟩
 have hB13:=hB1.next d3
 have hB23:=hB2.next d3
 refine rnT ?_
 refine TW.ld rfl (hB23.fld rfl) ?_
 refine rnT ?_
 refine TW.ld rfl (hB13.fld rfl) ?_
 refine TW.callF (cap:= []) rfl rfl en203 rfl ct (Args.cons rfl id (Args.cons rfl id Args.nil)) (fun _=>isIndexC_c) ?_
 rintro w4 d4
 refine rnT ?_
 have hB14:=hB13.next d4
 have hB24:=hB23.next d4
 have b4:=(b2.step d3).step d4
 refine TW.ld rfl (hB24.fld rfl) ?_
 refine rnT ?_
 refine CW.pk [0,1,2,3,4,26] rfl ?_
 refine CW.cond rfl (fun hbad=> ?_) (fun hgood=> ?_)
 ·refine rnT ?_
  refine rt1 rfl ⟨b4,?_⟩
  rw [dec_neg fun h=> ?_]
  have q1:=h.o1
  have q2:=h.o2
  have q3:=h.c1
  have q4:=h.c2
  have q5:=h.few
  simp [q1,q2,q3,q4] at hbad
  omega
 have hg:(0≤o.op∧o.op<N.ops.length)∧(0≤o.cal∧o.cal<N.cals.length)∧o.codes.length≤20:=by
  simp at hgood
  omega
 have hcd4:=hcd.below (d3.step d4)
 refine rnT ?_
 refine TW.ld rfl (hB24.fld rfl) ?_
 refine rnT ?_
 refine CW.lp [3,28,29] (fun k:Nat=> [(30,none,.int .i64 (k:Int))])
  (fun k W=>k≤o.codes.length∧Below w4.heap.size w4 W∧ ∀c∈o.codes.take k,CodeOK c) (fun k=>o.codes.length-k) 0 ⟨Nat.zero_le _,Below.refl _ _,fun c hc=>by simp at hc⟩ ?_
 rintro k W ⟨hk,hBW,hok⟩
 have hcW:=hcd4.below hBW
 have hB2W:=hB24.next hBW
 refine rnT ?_
 refine CW.condP rfl (fun hlt=> ?_) (fun hge=> ?_)
 ·obtain ⟨c,hc,hcm⟩:=getx (l:=o.codes) (k:=k) (by omega)
  obtain ⟨ad,rfl⟩:=hcW.addr (by omega)
  refine rnT ?_
  refine TW.ld rfl (hcW.getT hc) ?_
  refine rnT ?_
  refine TW.cl rfl (isCode_c) ?_
  rintro y5 w5 ⟨d5,rfl⟩
  refine rnT ?_
  refine CW.pk [3,6,28,29,30,36] rfl ?_
  refine CW.cond rfl (fun hb1=> ?_) (fun hb2=> ?_)
  ·refine rnT ?_
   refine rt1 rfl ⟨(b4.step hBW).step d5,?_⟩
   rw [dec_neg fun h=> ?_]
   rw [dec_pos (h.codes c hcm)] at hb1
   simp at hb1
  ·refine rnT ?_
   refine KW.rd (k+1) ⟨by omega,hBW.step d5,fun z hz=> ?_⟩
   rw [List.take_add_one,hc] at hz
   rcases List.mem_append.1 hz with hz|hz
   ·exact hok z hz
   ·simp at hz
    subst hz
    exact dec_iff.1 (by simpa using hb2)
 ·rw [List.take_of_length_le (by omega)] at hok
  refine rnT ?_
  refine TW.ld rfl (hB2W.fld rfl) ?_
  refine TW.cl rfl (isFrom_c) ?_
  rintro y5 w5 ⟨d5,rfl⟩
  have hB25:=hB2W.next d5
  refine rnT ?_
  refine TW.ld rfl (hB25.fld rfl) ?_
  refine TW.callF (cap:= []) rfl rfl en205 rfl ct (Args.cons rfl id (Args.cons rfl ct (Args.cons rfl ct Args.nil))) (fun _=>isFrom_c) ?_
  rintro w6 d6
  refine rnT ?_
  have hB26:=hB25.next d6
  refine TW.ld rfl (hB26.fld rfl) ?_
  refine TW.callF (cap:= []) rfl rfl en205 rfl ct (Args.cons rfl id (Args.cons rfl ct (Args.cons rfl ct Args.nil))) (fun _=>isFrom_c) ?_
  rintro w7 d7
  refine rnT ?_
  refine rt1 rfl ⟨(((b4.step hBW).step d5).step d6).step d7,?_⟩
  by_cases hq:OfOK N o
  ·rw [dec_pos hq]
   have q1:=hq.p1
   have q2:=hq.p2
   have q3:=hq.q1
   have q4:=hq.q2
   have q5:=hq.m1
   have q6:=hq.m2
   simp [q1,q2,q3,q4,q5,q6]
  ·rw [dec_neg hq]
   have: ¬(((2≤o.pock∧o.pock≤64)∧1≤o.pass∧o.pass≤4)∧1≤o.mins∧o.mins≤240):=fun h=>hq ⟨hg.1.1,hg.1.2,hg.2.1.1,hg.2.1.2,hg.2.2,hok,h.1.1.1,h.1.1.2,h.1.2.1,h.1.2.2,h.2.1,h.2.2⟩
   congr 1
   simp only [Bool.and_eq_false_iff,decide_eq_false_iff_not]
   omega
theorem goodLine_c {l:Li} (hN:NVform v N):Gives Tryz.prog 130 #[.agg v.cells.toArray,.agg (liV l).toArray] w fun x w'=>Below w.heap.size w w'∧x= .bool (dec (LiOK N l)):=by
 obtain ⟨vc,vn,vo,vf,vl,vk⟩:=v
 obtain ⟨_,_,_,⟨A4,c4,e4⟩,_,_⟩:=hN
 dsimp only at e4
 subst e4
 refine gv (f:=130) ?_
 refine rnT ?_
 refine TW.box rfl rfl rfl rfl ?_
 rintro g1 w1 f1
 refine TW.box rfl rfl rfl rfl ?_
 rintro g2 w2 f2
 refine rnT ?_
 have hB1:=f1.blk.next f2.below
 have hB2:=f2.blk
 have b2:=f1.below.step f2.below
 refine TW.ld rfl (hB2.fld rfl) ?_
 refine rnT ?_
 refine TW.ld rfl (hB1.fld rfl) ?_
 refine TW.cl rfl (isIndexF_c) ?_
 rintro y3 w3 ⟨d3,rfl⟩
 have hB13:=hB1.next d3
 have hB23:=hB2.next d3
 refine rnT ?_
 refine TW.ld rfl (hB23.fld rfl) ?_
 refine rnT ?_
 refine TW.ld rfl (hB13.fld rfl) ?_
 refine TW.callF (cap:= []) rfl rfl en65 rfl ct (Args.cons rfl id (Args.cons rfl id Args.nil)) (fun _=>isIndexF_c) ?_
 rintro w4 d4
 refine rnT ?_
 have hB14:=hB13.next d4
 have hB24:=hB23.next d4
 have b4:=(b2.step d3).step d4
 refine TW.ld rfl (hB24.fld rfl) ?_
 refine rnT ?_
 refine TW.ld rfl (hB24.fld rfl) ?_
 refine rnT ?_
 refine CW.pk [0,1,2,3,4,25] rfl ?_
 refine CW.cond rfl (fun hbad=> ?_) (fun hgood=> ?_)
 ·refine rnT ?_
  refine rt1 rfl ⟨b4,?_⟩
  rw [dec_neg fun h=> ?_]
  have q1:=h.f1
  have q2:=h.f2
  have q3:=h.t1
  have q4:=h.t2
  have q5:=h.ne
  simp [q1,q2,q3,q4,q5] at hbad
 have hg:(0≤l.frm∧l.frm<N.offs.length)∧(0≤l.to∧l.to<N.offs.length)∧l.frm≠l.to:=by
  simp at hgood
  omega
 refine rnT ?_
 refine TW.ld rfl (hB24.fld rfl) ?_
 refine TW.cl rfl (isMinute_c) ?_
 rintro y5 w5 ⟨d5,rfl⟩
 have hB25:=hB24.next d5
 refine rnT ?_
 refine TW.ld rfl (hB25.fld rfl) ?_
 refine TW.callF (cap:= []) rfl rfl en205 rfl ct (Args.cons rfl id (Args.cons rfl ct (Args.cons rfl ct Args.nil))) (fun _=>isFrom_c) ?_
 rintro w6 d6
 refine rnT ?_
 have hB26:=hB25.next d6
 refine TW.ld rfl (hB26.fld rfl) ?_
 refine TW.callF (cap:= []) rfl rfl en205 rfl ct (Args.cons rfl id (Args.cons rfl ct (Args.cons rfl ct Args.nil))) (fun _=>isFrom_c) ?_
 rintro w7 d7
 refine rnT ?_
 refine rt1 rfl ⟨((b4.step d5).step d6).step d7,?_⟩
 by_cases hq:LiOK N l
 ·rw [dec_pos hq]
  have q1:=hq.a1
  have q2:=hq.a2
  have q3:=hq.r1
  have q4:=hq.r2
  have q5:=hq.d1
  have q6:=hq.d2
  simp [q1,q2,q3,q4,q5,q6]
 ·rw [dec_neg hq]
  have: ¬(((0≤l.at_∧l.at_≤1439)∧1≤l.trav∧l.trav≤5000)∧1≤l.load∧l.load≤40):=fun h=>hq ⟨hg.1.1,hg.1.2,hg.2.1.1,hg.2.1.2,hg.2.2,h.1.1.1,h.1.1.2,h.1.2.1,h.1.2.2,h.2.1,h.2.2⟩
  congr 1
  simp only [Bool.and_eq_false_iff,decide_eq_false_iff_not]
  omega
abbrev PlE:=Value×Spt×Knd
def plPos (N:Net) (t:Int) (pre:List PlE) (x:PlE) (_:Nat→Prop) (W:World):Prop:=pre.map (·.2)=(plsS N t).take pre.length∧(plsS N t)[pre.length]?=some x.2∧ ∃b,FormAt b W x.1 x.2.2
theorem take_snoc {α:Type} {l:List α} {i:Nat} {x:α} (h:l[i]?=some x):l.take (i+1)=l.take i++ [x]:=by rw [List.take_add_one,h]; rfl
theorem places_iter {t:Int} {g1 g2:Nat} (hN:NetIn F w v N) (hF: ∀k,F k→k<w.heap.size) (hB1:Blk w g1 29 v.cells) (hB2:Blk w g2 3 [.int .i64 t]) (hsm:N.offs.length≤1000∧N.lines.length≤1000) :
  IterW Tryz.prog 115 [.pointer (some ⟨g1,0,none⟩),.pointer (some ⟨g2,0,none⟩)] (fun x:PlE=> [.agg (spV x.2.1).toArray,x.1]) (plPos N t) (fun xs=>xs.map (·.2)=plsS N t) (fun k=>k=g1∨k=g2∨F k) w:=by
 intro yl J Jx W M hown hsz hyl hM hMlt hJ hJx hy h0
 have hform:=NetIn.form hN
 obtain ⟨vc,vn,vo,vf,vl,vk⟩:=v
 obtain ⟨_,_,_,⟨A4,c4,e4⟩,⟨A5,c5,e5⟩,_⟩:=id hform
 dsimp only at e4 e5
 subst e4 e5
 have hlt: ∀k,(k=g1∨k=g2∨F k)→k<w.heap.size:=fun k hk=>by
  rcases hk with rfl|rfl|hk
  ·exact hB1.lt
  ·exact hB2.lt
  ·exact hF k hk
 have mem: ∀W':World,(∀k,(k=g1∨k=g2∨F k)→W'.heap[k]?=w.heap[k]?)→Blk W' g1 29 (NV.cells ⟨vc,vn,vo,.slice A4 N.offs.length c4,.slice A5 N.lines.length c5,vk⟩)∧Blk W' g2 3 [.int .i64 t]∧SL liT F W' (.slice A5 N.lines.length c5) N.lines:=fun W' h =>
  ⟨(h g1 (.inl rfl)).trans hB1,(h g2 (.inr (.inl rfl))).trans hB2,hN.l.mono (Kept.of_blocks fun k hk _=>h k (.inr (.inr hk)))⟩
 have hown': ∀k,(k=g1∨k=g2∨F k)→W.heap[k]?=w.heap[k]?:=fun k hk=>hown k hk (hlt k hk)
 obtain ⟨m1,m2,m3⟩:=mem W hown'
 have hpl:=plsS_len N t
 refine gv (f:=115) ?_
 refine rnT ?_
 refine TW.ld rfl (m1.fld rfl) ?_
 refine rnT ?_
 refine CW.lp [0,1,2,9] (fun x:List PlE×(Nat→Prop)=> [(10,none,.int .i64 (x.1.length:Int))])
  (fun x W'=>J x.1 x.2 W'∧x.1.length≤N.offs.length∧x.1.map (·.2)=(plsS N t).take x.1.length∧W.heap.size≤W'.heap.size∧(∀k,x.2 k→k<W'.heap.size)∧ ∀k,(k=g1∨k=g2∨F k)→W'.heap[k]?=w.heap[k]?∧ ¬x.2 k) (fun x=>N.offs.length-x.1.length) ([],M) ⟨h0,Nat.zero_le _,rfl,Nat.le_refl _,hMlt,fun k hk=>⟨hown' k hk,(hM k hk).1⟩⟩ ?_
 rintro ⟨pre,M1⟩ W1 ⟨hj,hpn,heq,hsz1,hM1,hk1⟩
 dsimp only at hj hpn heq hM1 hk1
 refine rnT ?_
 refine CW.condP rfl (fun hgo=> ?_) (fun hend=> ?_)
 ·dsimp only at hgo
  have hat:=plsS_off (N:=N) (t:=t) (i:=pre.length) (by omega)
  obtain ⟨n1,n2,n3⟩:=mem W1 (fun k hk=>(hk1 k hk).1)
  refine rnT ?_
  refine TW.build [0,1] _ [.int .i64 (pre.length:Int),.int .i64 (-1)] rfl rfl rfl (Args.cons rfl ct (Args.cons rfl ct Args.nil)) (by kernel_rfl) ?_
  refine rnT ?_
  refine TW.ld rfl (n2.cell 0) ?_
  refine TW.ld rfl (n2.cell 0) ?_
  refine TW.cl rfl (visit_c) ?_
  rintro fv w2 ⟨b2,hf2⟩
  have hj2:J pre M1 w2:=hJ _ _ _ _ hj (.of_below b2)
  refine TW.yield rfl rfl rfl (Args.cons rfl ct (Args.cons rfl ct Args.nil)) (hy pre (fv,((pre.length:Int),-1),.at pre.length t t) M1 w2 hj2 ⟨heq,hat,_,hf2⟩ (fun k hk=>by have:=hM1 k hk; have:=b2.size; omega) (by have:=b2.size; omega)) ?_
  rintro yb W3 hR
  have hk3: ∀k,(k=g1∨k=g2∨F k)→W3.heap[k]?=w.heap[k]?:=fun k hk=>(hR.kept k (by have:=hlt k hk; have:=b2.size; omega) (hk1 k hk).2 (hM k hk).2).trans ((b2.block k (by have:=hlt k hk; omega)).trans (hk1 k hk).1)
  refine rnT ?_
  refine CW.cond rfl (fun hno=> ?_) (fun hyes=> ?_)
  ·refine rnT ?_
   refine ret0 Tryz.results115 (.inr ?_)
   obtain ⟨M',hx⟩:=hR.no (by simpa using hno)
   exact ⟨_,M',hx⟩
  ·refine rnT ?_
   obtain ⟨M',hj3,hm3⟩:=hR.yes (by simpa using hyes)
   refine KW.rd (pre++ [(fv,((pre.length:Int),-1),.at pre.length t t)],M') ⟨hj3,by simp; omega,?_,by have:=hR.size; have:=b2.size; omega,fun k hk=>(hm3 k hk).2,fun k hk=>⟨hk3 k hk,fun hmk=> ?_⟩⟩ (hm:=by simp; omega) (hp:= ?_)
   ·dsimp only
    rw [List.map_append,heq,List.length_append,List.length_cons,List.length_nil,Nat.zero_add,take_snoc hat]
    rfl
   ·rcases (hm3 k hmk).1 with h|h
    ·exact (hk1 k hk).2 h
    ·have:=hlt k hk; have:=b2.size; omega
   ·simp only [List.length_append,List.length_cons,List.length_nil,Nat.zero_add,Int.natCast_add]
    rfl
 have hpe:pre.length=N.offs.length:=by
  dsimp only at hend
  omega
 obtain ⟨n1,n2,n3⟩:=mem W1 (fun k hk=>(hk1 k hk).1)
 refine rnT ?_
 refine TW.ld rfl (n1.fld rfl) ?_
 refine rnT ?_
 refine CW.lp [0,1,2,24,25] (fun x:List PlE×Nat×(Nat→Prop)=> [(26,none,.int .i64 (x.2.1:Int))])
  (fun x W'=>J x.1 x.2.2 W'∧x.2.1≤N.lines.length∧x.1.length=N.offs.length+x.2.1∧x.1.map (·.2)=(plsS N t).take x.1.length∧W.heap.size≤W'.heap.size∧(∀k,x.2.2 k→k<W'.heap.size)∧ ∀k,(k=g1∨k=g2∨F k)→W'.heap[k]?=w.heap[k]?∧ ¬x.2.2 k) (fun x=>N.lines.length-x.2.1) (pre,0,M1) ⟨hj,Nat.zero_le _,hpe,heq,hsz1,hM1,hk1⟩ ?_
 rintro ⟨pre,i,M1⟩ W1 ⟨hj,hin,hpn,heq,hsz1,hM1,hk1⟩
 dsimp only at hj hin hpn heq hM1 hk1
 refine rnT ?_
 refine CW.condP rfl (fun hgo=> ?_) (fun hend=> ?_)
 ·dsimp only at hgo
  obtain ⟨l,hl,hlm⟩:=getx (l:=N.lines) (k:=i) (by omega)
  have hat:=plsS_lin (N:=N) (t:=t) hl
  rw [←hpn] at hat
  obtain ⟨n1,n2,n3⟩:=mem W1 (fun k hk=>(hk1 k hk).1)
  obtain ⟨ad,rfl⟩:=n3.addr (by omega)
  obtain ⟨ad',cs,e9,hF9,hrep9,hc9⟩:=n3.at hl
  cases e9
  obtain ⟨rfl,_⟩:=hrep9
  refine rnT ?_
  refine TW.ldS rfl (fun j u hj=>hc9 j u hj) ?_
  refine TW.alloc rfl rfl zc113 ?_
  rintro g3 w3 f3
  refine rnT ?_
  refine TW.storeBlkF rfl rfl rfl f3.blk sz113 rfl rfl rfl ?_
  rintro w4 hB4 hbut4 hsz4
  refine rnT ?_
  have b4:Below W1.heap.size W1 w4:=f3.below.grown hbut4 f3.below.size (fun q hq=>by cases hq; have:=f3.at_; omega)
  refine TW.build [0,1] _ [.int .i64 (-1),.int .i64 (i:Int)] rfl rfl rfl (Args.cons rfl ct (Args.cons rfl ct Args.nil)) (by kernel_rfl) ?_
  refine TW.ldS rfl (fun _ _ hv=>hB4.fld hv) ?_
  refine TW.ld rfl ((n2.next b4).cell 0) ?_
  refine TW.cl rfl (ride_c) ?_
  rintro fv w2 ⟨b2',hf2⟩
  have b2:=b4.step b2'
  have hj2:J pre M1 w2:=hJ _ _ _ _ hj (.of_below b2)
  refine TW.yield rfl rfl rfl (Args.cons rfl ct (Args.cons rfl ct Args.nil)) (hy pre (fv,(-1,(i:Int)),.on l t) M1 w2 hj2 ⟨heq,hat,_,hf2⟩ (fun k hk=>by have:=hM1 k hk; have:=b2.size; omega) (by have:=b2.size; omega)) ?_
  rintro yb W3 hR
  have hk3: ∀k,(k=g1∨k=g2∨F k)→W3.heap[k]?=w.heap[k]?:=fun k hk=>(hR.kept k (by have:=hlt k hk; have:=b2.size; omega) (hk1 k hk).2 (hM k hk).2).trans ((b2.block k (by have:=hlt k hk; omega)).trans (hk1 k hk).1)
  refine rnT ?_
  refine CW.pk [0,1,2,5,6,24,25,26,38] rfl ?_
  refine CW.cond rfl (fun hno=> ?_) (fun hyes=> ?_)
  ·refine rnT ?_
   refine ret0 Tryz.results115 (.inr ?_)
   obtain ⟨M',hx⟩:=hR.no (by simpa using hno)
   exact ⟨_,M',hx⟩
  ·refine rnT ?_
   obtain ⟨M',hj3,hm3⟩:=hR.yes (by simpa using hyes)
   refine KW.rd (pre++ [(fv,(-1,(i:Int)),.on l t)],i+1,M') ⟨hj3,by dsimp only; omega,by simp; omega,?_,by have:=hR.size; have:=b2.size; omega,fun k hk=>(hm3 k hk).2,fun k hk=>⟨hk3 k hk,fun hmk=> ?_⟩⟩ (hm:=by dsimp only; omega)
   ·dsimp only
    rw [List.map_append,heq,List.length_append,List.length_cons,List.length_nil,Nat.zero_add,take_snoc hat]
    rfl
   ·rcases (hm3 k hmk).1 with h|h
    ·exact (hk1 k hk).2 h
    ·have:=hlt k hk; have:=b2.size; omega
 have hie:i=N.lines.length:=by
  dsimp only at hend
  omega
 refine rnT ?_
 refine end0 Tryz.results115 (.inl ⟨pre,M1,?_,hj⟩)
 dsimp only
 rw [heq,hpn,hie,←hpl,List.take_length]
end Go.Proofs.YtobaafdejnimkaaGreatDoor
namespace Go.Proofs.YtobaafdejnimkaaGreatDoor
open Go.PF Go.RowKit Go.Ord
variable {s:ByteArray} {nm:List ByteArray} {i:Nat}
def NameF (w:World) (kn:Nat) (capn:List Value) (i:Nat) (s:ByteArray):Prop:= ∀W,Below w.heap.size w W→Gives Tryz.prog kn (.int .i64 (i:Int)::capn).toArray W fun u W'=>Below W.heap.size W W'∧u= .string s
theorem NameF.below {w w':World} {kn:Nat} {capn:List Value} (h:NameF w kn capn i s) (hb:Below w.heap.size w w'):NameF w' kn capn i s:=fun W hW=>h W (hb.step hW)
noncomputable def res1 (s:ByteArray):Int:=if dec (NameOK keys11 s) then 0 else 1
noncomputable def res2 (nm:List ByteArray) (i:Nat) (s:ByteArray):Int:=if dec (s∈nm.take i) then 4 else 0
noncomputable def res3 {α:Type} (G:α→Prop) (x:α):Int:=if dec (G x) then 0 else 1
theorem nodup_take:(∀(i:Nat) (s:ByteArray),nm[i]?=some s→s ∉ nm.take i)→nm.Nodup:=fun h=>by
 rw [List.nodup_iff_pairwise_ne,List.pairwise_iff_getElem]
 intro i j hi hj hij e
 exact h j nm[j] (List.getElem?_eq_getElem hj) (by rw [←e]; exact List.mem_of_getElem? (i:=i) (by rw [List.getElem?_take_of_lt hij]; exact List.getElem?_eq_getElem hi))
theorem take_nodup (h:nm.Nodup) (hs:nm[i]?=some s):s ∉ nm.take i:=fun hm=>by
 obtain ⟨j,hj⟩:=List.mem_iff_getElem?.1 hm
 have hj1:j<i:=by
  have:=(List.getElem?_eq_some_iff.1 hj).1
  simp at this
  omega
 rw [List.getElem?_take_of_lt hj1] at hj
 obtain ⟨h1,h2⟩:=List.getElem?_eq_some_iff.1 hj
 obtain ⟨h3,h4⟩:=List.getElem?_eq_some_iff.1 hs
 have:=List.pairwise_iff_getElem.1 (List.nodup_iff_pairwise_ne.1 h) j i h1 h3 hj1
 exact this (by rw [h2,h4])
theorem res1_zero:res1 s=0↔NameOK keys11 s:=by
 unfold res1
 by_cases h:NameOK keys11 s
 ·rw [dec_pos h]; simp [h]
 ·rw [dec_neg h]; simp [h]
theorem res2_zero:res2 nm i s=0↔s ∉ nm.take i:=by
 unfold res2
 by_cases h:s∈nm.take i
 ·rw [dec_pos h]; simp [h]
 ·rw [dec_neg h]; simp [h]
theorem res3_zero {α:Type} {G:α→Prop} {x:α}:res3 G x=0↔G x:=by
 unfold res3
 by_cases h:G x
 ·rw [dec_pos h]; simp [h]
 ·rw [dec_neg h]; simp [h]
def GoodAt {α:Type} (nm:List ByteArray) (l:List α) (G:α→Prop) (j:Nat):Prop:= ∀x s,l[j]?=some x→nm[j]?=some s→NameOK keys11 s∧s ∉ nm.take j∧G x
theorem goodAt_iff {α:Type} {l:List α} {G:α→Prop} {j:Nat} {x:α} (hx:l[j]?=some x) (hs:nm[j]?=some s):GoodAt nm l G j↔res1 s=0∧res2 nm j s=0∧res3 G x=0:=by
 rw [res1_zero,res2_zero,res3_zero]
 exact ⟨fun h=>h x s hx hs,fun h y z hy hz=>by rw [hx] at hy; rw [hs] at hz; cases hy; cases hz; exact h⟩
theorem kind_iff {α:Type} {l:List α} {G:α→Prop} {lim:Nat} (hnl:nm.length=l.length):KindOK keys11 lim nm l G↔l.length≤lim∧ ∀j,j<min l.length lim→GoodAt nm l G j:=by
 constructor
 ·exact fun h=>⟨h.few,fun j _ x s hx hs=>⟨h.name s (List.mem_of_getElem? hs),take_nodup h.nodup hs,h.good x (List.mem_of_getElem? hx)⟩⟩
 ·rintro ⟨h1,h2⟩
  have h3: ∀(j:Nat) x s,l[j]?=some x→nm[j]?=some s→NameOK keys11 s∧s ∉ nm.take j∧G x:=fun j x s hx hs=>h2 j (by have:=(List.getElem?_eq_some_iff.1 hx).1; omega) x s hx hs
  refine ⟨h1,fun s hs=> ?_,nodup_take fun i s hs=> ?_,fun x hx=> ?_⟩
  ·obtain ⟨j,hj⟩:=List.mem_iff_getElem?.1 hs
   have hjl:=(List.getElem?_eq_some_iff.1 hj).1
   exact (h3 j l[j] s (List.getElem?_eq_getElem (by omega)) hj).1
  ·have hjl:=(List.getElem?_eq_some_iff.1 hs).1
   exact (h3 i l[i] s (List.getElem?_eq_getElem (by omega)) hs).2.1
  ·obtain ⟨j,hj⟩:=List.mem_iff_getElem?.1 hx
   have hjl:=(List.getElem?_eq_some_iff.1 hj).1
   exact (h3 j x nm[j] hj (List.getElem?_eq_getElem (by omega))).2.2
def FRow (w:World) (b:Nat) (v:Value) (n:Nat):Prop:= ∃zs,OwnS w 167 3 v n zs∧(∀u∈zs,u.oneCell'=true)∧ ∀g,v.ownBlock=some g→b≤g
theorem FRow.below {w w':World} {b:Nat} {v:Value} {n:Nat} (h:FRow w b v n) (hb:Below w.heap.size w w'):FRow w' b v n:=by
 obtain ⟨zs,h1,h2,h3⟩:=h
 exact ⟨zs,h1.below hb,h2,h3⟩
theorem FRow.app {w w':World} {b n:Nat} {v v':Value} {zs cs:List Value} (h3: ∀g,v.ownBlock=some g→b≤g) (h2: ∀u∈zs,u.oneCell'=true) (hc: ∀u∈cs,u.oneCell'=true) (hO:OwnS w' 167 3 v' (n+1) (zs++cs)) (hn:v'.ownBlock=v.ownBlock∨v'.ownBlock=some w.heap.size) (hb:b≤w.heap.size):FRow w' b v' (n+1) :=
 ⟨zs++cs,hO,fun u hu=>(List.mem_append.1 hu).elim (h2 u) (hc u),fun g hg=>by
  rcases hn with h|h
  ·exact h3 g (by rw [←h]; exact hg)
  ·rw [h] at hg; cases hg; exact hb⟩
theorem FRow.nil (w:World) (b:Nat):FRow w b (.slice none 0 0) 0:=⟨[],OwnS.nil _ _ _,(fun u hu=>by cases hu),(fun g hg=>by simp [Value.ownBlock] at hg)⟩
end Go.Proofs.YtobaafdejnimkaaGreatDoor
namespace Go.Proofs.YtobaafdejnimkaaGreatDoor
open Go.PF Go.RowKit Go.Ord
attribute [local irreducible] TW CW KW DW
variable {w:World} {kn i:Nat} {capn:List Value}
theorem ru1Cal_c {g8:Nat} {s:ByteArray} (ht:Tabs w) (hB:Blk w g8 188 [.func (.func kn) #[] capn.toArray]) (hen:enters Tryz.prog kn=true) (hn:NameF w kn capn i s) :
  Gives Tryz.prog 192 #[.int .i64 (i:Int),.pointer (some ⟨g8,0,none⟩)] w fun u w'=>Below w.heap.size w w'∧u= .int .i64 (res1 s):=by
 refine gv (f:=192) ?_
 refine rnT ?_
 refine TW.ld rfl (hB.cell 0) ?_
 refine rnT ?_
 refine TW.call0 rfl rfl hen rfl (Args.cons rfl ct Args.nil) (hn w (Below.refl _ _)) ?_
 rintro y1 w1 ⟨c1,rfl⟩
 refine TW.cl rfl (isName_c (ht.below c1)) ?_
 rintro y2 w2 ⟨c2,rfl⟩
 refine rnT ?_
 refine CW.cond rfl (fun h1=> ?_) (fun h2=> ?_)
 ·refine rnT ?_
  refine rt1 rfl ⟨c1.step c2,?_⟩
  unfold res1
  cases hq:dec (NameOK keys11 s) with
  | true=>rw [hq] at h1; simp at h1
  | false=>rfl
 ·refine rnT ?_
  refine rt1 rfl ⟨c1.step c2,?_⟩
  unfold res1
  cases hq:dec (NameOK keys11 s) with
  | true=>rfl
  | false=>rw [hq] at h2; simp at h2
theorem ru2Cal_c {g8:Nat} {nm:List ByteArray} {s:ByteArray} (hB:Blk w g8 188 [.func (.func kn) #[] capn.toArray]) (hen:enters Tryz.prog kn=true) (hn: ∀j x,nm[j]?=some x→NameF w kn capn j x) (hs:nm[i]?=some s) (hi:i≤1000000) :
  Gives Tryz.prog 194 #[.int .i64 (i:Int),.pointer (some ⟨g8,0,none⟩)] w fun u w'=>Below w.heap.size w w'∧u= .int .i64 (res2 nm i s):=by
 refine gv (f:=194) ?_
 refine rnT ?_
 refine CW.lp [0,1,5] (fun k:Nat=> [(6,none,.int .i64 (k:Int))])
  (fun k W=>k≤i∧Below w.heap.size w W∧s ∉ nm.take k) (fun k=>i-k) 0 ⟨Nat.zero_le _,Below.refl _ _,by simp⟩ ?_
 rintro k W ⟨hk,hW,hno⟩
 have hil:=(List.getElem?_eq_some_iff.1 hs).1
 refine rnT ?_
 refine CW.condP rfl (fun hlt=> ?_) (fun hge=> ?_)
 ·obtain ⟨x,hx,hxm⟩:=getx (l:=nm) (k:=k) (by omega)
  have hBW:=hB.next hW
  refine rnT ?_
  refine CW.draw mixed (by kernel_rfl) ?_
  refine DW.ld rfl (hBW.cell 0) ?_
  refine rnD ?_
  refine DW.call (.ex (.string x)) trivial rfl rfl hen rfl ct (DArgs.cons rfl ct DArgs.nil) (fun _ w' hb'=>hn k x hx w' (hW.step hb')) ?_
  refine DW.ld rfl (hBW.cell 0) ?_
  refine rnD ?_
  refine DW.call (.ex (.string s)) trivial rfl rfl hen rfl ct (DArgs.cons rfl ct DArgs.nil) (fun _ w' hb'=>hn i s hs w' (hW.step hb')) ?_
  refine rnD ?_
  rw [beqL]
  refine DW.fi [0,1,4,5,6,15] rfl fun w3 b3=> ?_
  refine KW.then_ ?_
  refine CW.cond rfl (fun heq=> ?_) (fun hne=> ?_)
  ·refine rnT ?_
   refine rt1 rfl ⟨hW.step b3,?_⟩
   have hxs:x=s:=of_decide_eq_true heq
   subst hxs
   unfold res2
   rw [dec_pos (List.mem_of_getElem? (i:=k) (by rw [List.getElem?_take_of_lt (by omega)]; exact hx))]
   rfl
  ·refine rnT ?_
   refine KW.rd (k+1) ⟨by omega,hW.step b3,fun h=> ?_⟩
   rw [List.take_add_one,hx] at h
   rcases List.mem_append.1 h with h|h
   ·exact hno h
   ·simp at h
    exact of_decide_eq_false hne h.symm
 ·refine rnT ?_
  refine rt1 rfl ⟨hW,?_⟩
  have:k=i:=by omega
  subst this
  unfold res2
  rw [dec_neg hno]
  rfl
theorem ru3Cal_c {g9 g7 kg:Nat} {capg:List Value} {v:Value} {l:List Cal} {x:Cal} {F:Nat→Prop} {G:Cal→Prop} (hB9:Blk w g9 163 [.func (.func kg) #[] capg.toArray]) (hB7:Blk w g7 22 [v]) (hen:enters Tryz.prog kg=true) (hl:SL calT F w v l) (hx:l[i]?=some x)
 (hg: ∀cs W,Below w.heap.size w W→calT.rep F W cs x→Gives Tryz.prog kg (.agg cs.toArray::capg).toArray W fun u W'=>Below W.heap.size W W'∧u= .bool (dec (G x))) :
  Gives Tryz.prog 195 #[.int .i64 (i:Int),.pointer (some ⟨g9,0,none⟩),.pointer (some ⟨g7,0,none⟩)] w fun u w'=>Below w.heap.size w w'∧u= .int .i64 (res3 G x):=by
 obtain ⟨A,cap,rfl,_⟩:=hl.form
 have hil:=(List.getElem?_eq_some_iff.1 hx).1
 have hmax:=hl.len.2.2
 obtain ⟨ad,rfl⟩:=hl.addr (by omega)
 obtain ⟨ad',cs,e1,hF,hrep,hc⟩:=hl.at hx
 cases e1
 have hrep0:=hrep
 obtain ⟨zu,zv,rfl,zz⟩:=hrep
 refine gv (f:=195) ?_
 refine rnT ?_
 refine CW.draw mixed (by kernel_rfl) ?_
 refine DW.ld rfl (hB9.cell 0) ?_
 refine DW.ld rfl (hB7.cell 0) ?_
 refine rnD ?_
 refine DW.ldS rfl (hc) ?_
 refine DW.call (.ex (.bool (dec (G x)))) trivial rfl rfl hen rfl ct (DArgs.cons rfl ct DArgs.nil) (fun _ w' hb'=>hg _ w' hb' (calT.mono _ _ _ _ _ (Kept.of_below hb') hrep0)) ?_
 refine rnD ?_
 refine DW.fi [0,1,2,4,11] rfl fun w3 b3=> ?_
 refine KW.then_ ?_
 refine CW.cond rfl (fun h1=> ?_) (fun h2=> ?_)
 ·refine rnT ?_
  refine rt1 rfl ⟨b3,?_⟩
  unfold res3
  cases hq:dec (G x) with
  | true=>rw [hq] at h1; simp at h1
  | false=>rfl
 ·refine rnT ?_
  refine rt1 rfl ⟨b3,?_⟩
  unfold res3
  cases hq:dec (G x) with
  | true=>rfl
  | false=>rw [hq] at h2; simp at h2
theorem checkCal_c {kg lim:Nat} {kd:Int} {capg:List Value} {v:Value} {l:List Cal} {nm:List ByteArray} {F:Nat→Prop} {G:Cal→Prop} (ht:Tabs w) (hl:SL calT F w v l) (hen:enters Tryz.prog kn=true) (heg:enters Tryz.prog kg=true) (hlim:lim≤1000)
 (hnl:nm.length=l.length) (hn: ∀j x,nm[j]?=some x→NameF w kn capn j x) (hg: ∀(i:Nat) (x:Cal),l[i]?=some x→ ∀cs W,Below w.heap.size w W→calT.rep F W cs x→Gives Tryz.prog kg (.agg cs.toArray::capg).toArray W fun u W'=>Below W.heap.size W W'∧u= .bool (dec (G x))) :
    Gives Tryz.prog 118 #[.int .i64 kd,.int .i64 (lim:Int),v,.func (.func kn) #[] capn.toArray,.func (.func kg) #[] capg.toArray] w fun u w'=>Below w.heap.size w w'∧ ∃n,FRow w' w.heap.size u n∧n≤lim+1∧(n=0↔KindOK keys11 lim nm l G):=by
  obtain ⟨A,cap,rfl,_⟩:=hl.form
  have hmax:=hl.len.2.2
  refine gv (f:=118) ?_
  refine rnT ?_
  refine TW.box rfl rfl rfl rfl ?_
  rintro g7 w7 f7
  refine TW.box rfl rfl rfl rfl ?_
  rintro g8 w8 f8
  refine TW.box rfl rfl rfl rfl ?_
  rintro g9 w9 f9
  refine rnT ?_
  refine TW.makeFunc rfl rfl (Args.cons rfl ct Args.nil) ?_
  refine TW.makeFunc rfl rfl (Args.cons rfl ct Args.nil) ?_
  refine TW.makeFunc rfl rfl (Args.cons rfl ct (Args.cons rfl ct Args.nil)) ?_
  have hB7:=(f7.blk.next f8.below).next f9.below
  have hB8:=f8.blk.next f9.below
  have hB9:=f9.blk
  have b9:=(f7.below.step f8.below).step f9.below
  refine TW.build [0,1,2] _ [.func (.func 192) #[] #[.pointer (some ⟨g8,0,none⟩)],.func (.func 194) #[] #[.pointer (some ⟨g8,0,none⟩)],.func (.func 195) #[] #[.pointer (some ⟨g9,0,none⟩),.pointer (some ⟨g7,0,none⟩)]] rfl rfl rfl (Args.cons rfl ct (Args.cons rfl ct (Args.cons rfl ct Args.nil))) (by kernel_rfl) ?_
  refine TW.newVar rfl zc251 rfl sz251 rfl rfl ?_
  rintro g11 w11 f11
  refine rnT ?_
  have hB7:=(hB7.next f11.below)
  have hB8:=(hB8.next f11.below)
  have hB9:=(hB9.next f11.below)
  have hB11:=f11.blk
  have b11:=b9.step f11.below
  refine TW.ld rfl (hB7.cell 0) ?_
  refine rnT ?_
  refine TW.v V.minI rfl ⟨ct,ct,trivial⟩ (fun _=>trivial) ?_
  refine rnT ?_
  refine CW.lp [0,1,7,11,24] (fun z:Nat×Value×Nat=> [(12,none,z.2.1),(25,none,.int .i64 (z.1:Int))])
    (fun z W=>z.1≤min l.length lim∧Below w11.heap.size w11 W∧FRow W w11.heap.size z.2.1 z.2.2∧z.2.2≤z.1∧(z.2.2=0↔ ∀j,j<z.1→GoodAt nm l G j)) (fun z=>min l.length lim-z.1) (0,.slice none 0 0,0) ⟨Nat.zero_le _,Below.refl _ _,FRow.nil _ _,Nat.le_refl _,⟨fun _ j hj=>by omega,fun _=>rfl⟩⟩ ?_
  rintro ⟨i,fv,n⟩ W ⟨hi,hW,⟨zs,hO,h2,h3⟩,hni,hgd⟩
  dsimp only at hi hO h3 hni hgd
  have hbW:=b11.step hW
  refine rnT ?_
  refine CW.pk [0,1,7,11,12,24,25,26] rfl ?_
  refine CW.condP rfl (fun hlt=> ?_) (fun hge=> ?_)
  · obtain ⟨x,hx,hxm⟩:=getx (l:=l) (k:=i) (by omega)
    obtain ⟨s,hs,hsm⟩:=getx (l:=nm) (k:=i) (by omega)
    have hB11W:=hB11.next hW
    refine rnT ?_
    refine TW.loadA _ rfl rfl Tryz.underlying251 sz251 rfl ct (fun _=>(fun _ _ hv=>hB11W.fld hv)) rfl ?_
    refine rnT ?_
    refine CW.lp [0,1,7,11,12,13,24,25,28] (fun k:Nat=> [(29,none,.int .i64 (k:Int))])
      (fun k W'=>k≤3∧Below W.heap.size W W'∧(0<k→res1 s=0)∧(1<k→res2 nm i s=0)∧(2<k→res3 G x=0)) (fun k=>3-k) 0 ⟨Nat.zero_le _,Below.refl _ _,fun h=>by omega,fun h=>by omega,fun h=>by omega⟩ ?_
    rintro k W' ⟨hk,hW',hr1,hr2,hr3⟩
    have hbW':=hbW.step hW'
    have hnW: ∀j y,nm[j]?=some y→NameF W' kn capn j y:=fun j y hj=>(hn j y hj).below hbW'
    have hB7':=hB7.next (hW.step hW')
    have hB8':=hB8.next (hW.step hW')
    have hB9':=hB9.next (hW.step hW')
    have hlW:=hl.below hbW'
    refine rnT ?_
    refine CW.condP rfl (fun hlt3=> ?_) (fun hge3=> ?_)
    · have hk3:k<3:=by omega
      refine CW.skip (KW.then_ (CW.seq (CW.block (CW.seq (CW.region ?_)))))
      obtain ⟨kf,cp,r,hkf,hen',hcl,z1,z2,z3⟩: ∃(kf:Nat) (cp:List Value) (r:Int),[Value.func (.func 192) #[] #[.pointer (some ⟨g8,0,none⟩)],.func (.func 194) #[] #[.pointer (some ⟨g8,0,none⟩)],.func (.func 195) #[] #[.pointer (some ⟨g9,0,none⟩),.pointer (some ⟨g7,0,none⟩)]][((k:Nat):Int).toNat]?=some (.func (.func kf) #[] cp.toArray)∧enters Tryz.prog kf=true∧Gives Tryz.prog kf (.int .i64 (i:Int)::cp).toArray W' (fun u w'=>Below W'.heap.size W' w'∧u= .int .i64 r)∧(k=0→r=res1 s)∧(k=1→r=res2 nm i s)∧(k=2→r=res3 G x):=by
        obtain rfl|rfl|rfl:k=0∨k=1∨k=2:=by omega
        · exact ⟨_,[_],_,rfl,en192,ru1Cal_c (ht.below hbW') hB8' hen (hnW i s hs),fun _=>rfl,fun h=>by omega,fun h=>by omega⟩
        · exact ⟨_,[_],_,rfl,en194,ru2Cal_c hB8' hen hnW hs (by omega),fun h=>by omega,fun _=>rfl,fun h=>by omega⟩
        · exact ⟨_,[_,_],_,rfl,en195,ru3Cal_c hB9' hB7' heg hlW hx (fun cs X hX hr=>hg i x hx cs X (hbW'.step hX) hr),fun h=>by omega,fun h=>by omega,fun _=>rfl⟩
      refine TW.indexV rfl rfl Tryz.underlying251 one250 sz250 rfl ct rfl ct (fun _=>by (try dsimp only); omega) (fun _=>hkf) ?_
      refine rnT ?_
      refine TW.call0 rfl rfl hen' rfl (Args.cons rfl ct Args.nil) (hcl) ?_
      rintro y1 w1 ⟨c1,rfl⟩
      refine rnT ?_
      refine CW.cond rfl (fun hne=> ?_) (fun heq=> ?_)
      · have hbad:r≠0:=by simpa using hne
        refine rnT ?_
        refine TW.build [0,1,2] _ [.int .i64 kd,.int .i64 (i:Int),.int .i64 r] rfl rfl rfl (Args.cons rfl ct (Args.cons rfl ct (Args.cons rfl ct Args.nil))) (by kernel_rfl) ?_
        refine TW.buildSlice 167 _ rfl rfl rfl eo85 (Args.cons rfl ct Args.nil) rfl rfl rfl rfl rfl ?_
        rintro g2 w2 f2
        have hW1:=(hW.step hW').step c1
        refine TW.append [.int .i64 kd,.int .i64 (i:Int),.int .i64 r] rfl rfl go85 rfl (((hO.below hW').below c1).below f2.below) rfl rfl (fun j u hj=>⟨_,rfl,f2.blk.fld hj⟩) (fun u hu=>by simp at hu; rcases hu with rfl|rfl|rfl<;>rfl) (by omega) (by omega) ?_
        rintro fv' w3 hO3 hg3 hn3
        refine rnT ?_
        have hW2:=hW1.step f2.below
        refine KW.rd (i+1,fv',n+1) ⟨by show i+1≤_; omega,hW2.grown hg3 hW2.size h3,FRow.app (w:=w2) h3 h2 (fun u hu=>by simp at hu; rcases hu with rfl|rfl|rfl<;>rfl) hO3 hn3 hW2.size,by show n+1≤i+1; omega,⟨fun h=>absurd h (Nat.succ_ne_zero n),fun h=> ?_⟩⟩
        obtain ⟨q1,q2,q3⟩:=(goodAt_iff hx hs).1 (h i (by show i<i+1; omega))
        exact absurd (show r = 0 by obtain h | h | h : k = 0 ∨ k = 1 ∨ k = 2 := by omega
                                    · rw [z1 h,q1]
                                    · rw [z2 h,q2]
                                    · rw [z3 h,q3]) hbad
      · have hgood:r=0:=by simpa using heq
        refine rnT ?_
        refine KW.rd (k+1) ⟨by omega,hW'.step c1,fun _=> ?_,fun _=> ?_,fun _=> ?_⟩
        · by_cases h:k=0
          · rw [←z1 h,hgood]
          · exact hr1 (by omega)
        · by_cases h:k=1
          · rw [←z2 h,hgood]
          · exact hr2 (by omega)
        · by_cases h:k=2
          · rw [←z3 h,hgood]
          · exact hr3 (by omega)
    · have hk3:k=3:=by omega
      subst hk3
      refine rnT ?_
      refine KW.rd (i+1,fv,n) ⟨by show i+1≤_; omega,hW.step hW',⟨zs,hO.below hW',h2,h3⟩,by show n≤i+1; omega,?_⟩
      show n=0↔ ∀j,j<i+1→GoodAt nm l G j
      rw [hgd]
      refine ⟨fun h j hj=> ?_,fun h j hj=>h j (by omega)⟩
      rcases Nat.lt_or_ge j i with h'|h'
      · exact h j h'
      · have:j=i:=by omega
        subst this
        exact (goodAt_iff hx hs).2 ⟨hr1 (by omega),hr2 (by omega),hr3 (by omega)⟩
  have hie:i=min l.length lim:=by omega
  have h3: ∀g,fv.ownBlock=some g→w.heap.size≤g:=fun g hg=>Nat.le_trans b11.size (h3 g hg)
  refine rnT ?_
  refine TW.ld rfl ((hB7.next hW).cell 0) ?_
  refine rnT ?_
  refine CW.pk [0,1,7,11,12,24,25,49] rfl ?_
  refine CW.condP rfl (fun hbig=> ?_) (fun hsmall=> ?_)
  · refine rnT ?_
    refine TW.build [0,1,2] _ [.int .i64 kd,.int .i64 (lim:Int),.int .i64 2] rfl rfl rfl (Args.cons rfl ct (Args.cons rfl ct (Args.cons rfl ct Args.nil))) (by kernel_rfl) ?_
    refine TW.buildSlice 167 _ rfl rfl rfl eo85 (Args.cons rfl ct Args.nil) rfl rfl rfl rfl rfl ?_
    rintro g2 w2 f2
    refine TW.append [.int .i64 kd,.int .i64 (lim:Int),.int .i64 2] rfl rfl go85 rfl (hO.below f2.below) rfl rfl (fun j u hj=>⟨_,rfl,f2.blk.fld hj⟩) (fun u hu=>by simp at hu; rcases hu with rfl|rfl|rfl<;>rfl) (by omega) (by omega) ?_
    rintro fv' w3 hO3 hg3 hn3
    refine rnT ?_
    have hb2:=hbW.step f2.below
    refine rt1 rfl ⟨hb2.grown hg3 hb2.size (fun q hq=>h3 q hq),n+1,FRow.app (w:=w2) h3 h2 (fun u hu=>by simp at hu; rcases hu with rfl|rfl|rfl<;>rfl) hO3 hn3 hb2.size,by omega,⟨fun h=>by omega,fun h=> ?_⟩⟩
    have:=h.few
    omega
  · refine rnT ?_
    refine rt1 rfl ⟨hbW,n,⟨zs,hO,h2,h3⟩,by omega,?_⟩
    rw [kind_iff hnl,hgd,hie]
    exact ⟨fun h=>⟨by omega,h⟩,fun h=>h.2⟩
end Go.Proofs.YtobaafdejnimkaaGreatDoor
