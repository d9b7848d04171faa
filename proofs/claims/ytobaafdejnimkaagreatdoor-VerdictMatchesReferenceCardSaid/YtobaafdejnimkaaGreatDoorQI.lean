/- Texts of this claim,joined. -/
import Derived.Test.YtobaafdejnimkaaGreatDoorQH
import Derived.ProofKit
import Derived.JoinedOf
import Derived.Deep.Slices
import Derived.SizedLaws
set_option linter.unusedSimpArgs false
set_option linter.unusedVariables false
set_option maxRecDepth 100000
set_option maxHeartbeats 4000000
namespace Go.Proofs.YtobaafdejnimkaaGreatDoor
open Tryz
open Go.PF Go.RowKit Go.Ord
attribute [local irreducible] TW CW KW DW
variable {w:World} {l:List Ev} {d:bA} {ws:List (List Int)} {F:Nat->Prop} {N:Net} {lv wv dv kv:Value} {c:Cl} {ks:List Int} {gl g2 g3 g4 cl:Nat} {x y:ByteArray} {t:Int} {v:NV}
def Ke (w:World) (b:Nat) (S:Int->Prop):Prop:= ∃m,MapL jI w b m/\ ∀x,x∈m.map (·.1)↔S x
theorem G5 {W:World} {b:Nat} {m:List (Int×Value)} (hm:MapL jI w b m) (hB:But b w W):Kept F w W:=fun p v _ hc=>by
 by_cases e:p.block=b
 ·obtain ⟨⟨es,cl,hh,_⟩,_⟩:=hm;unfold World.cell? at hc;rw [e,hh] at hc;cases hc
 ·exact (World.cell?_of_block (hB.block p.block (block_lt_of_cell hc) (fun h=>e (by cases h; rfl)))).trans hc
theorem yf:(ig N d l ws t).length<=52:=by
 unfold ig
 split
 ·rename_i h;have hp:PossOK N d l ws.length t:=dec_iff.1 h;have h1:=hp.sound.cons.offs.few;have h2:=hp.sound.cons.lines.few;unfold lT;rw [List.length_map];have:=List.length_filter_le (fun p=>jg d (bU l ws) p.2) (jZ N t);have:=pG N t;omega
 ·simp
theorem He {x:Int} (h:x∈gX N d l ws t):0<=x/\x<=6:=by
 obtain ⟨s,hs,rfl⟩:=hold_mem.1 h;have hp:PossOK N d l ws.length t:=by
  unfold ig at hs
  split at hs
  ·rename_i hq;exact dec_iff.1 hq
  ·cases hs
 have hr:=Cq hp.sound.cons (poss_ok.1 s hs);have:=hp.sound.cons.ops.few;omega
theorem nM (ht:Tabs w) (hN:dI w v N) (hd:SD w dv d) (hl:SE w lv l) (hS:SD w wv ws) (hne: ∀e∈l,e.needs.length<=1000000) :
  Gives prog 16 #[.agg v.cells.toArray,dv,lv,wv,.int .i64 t] w fun u w'=>Below w.heap.size w w'/\SI w' u (gX N d l ws t):=by
 have hform:=NetIn.form hN;have hone:(v.cells.all fun x=>x.oneCell')=true:=by
  obtain ⟨⟨A1,c1,e1⟩,⟨A2,c2,e2⟩,⟨A3,c3,e3⟩,⟨A4,c4,e4⟩,⟨A5,c5,e5⟩,⟨A6,c6,e6⟩⟩:=hform;simp only [NV.cells,e1,e2,e3,e4,e5,e6];rfl
 refine gv (f:=16) ?_;refine ag ?_;refine aG rfl rfl rfl rfl ?_;rintro g5 w1 f1;refine ag ?_;refine jy jI rfl rfl ?_;rintro b w2 hbw hw2 hb2 hM2;refine ag ?_;have b2:=f1.below.step hb2;have hV2:=f1.blk.next hb2;refine aF rfl (fun _ _ hv=>hV2.fld hv) ?_;refine ag ?_;refine aA rfl (Al (ht.below b2) (aL hN b2) (aU hd b2) (aY hl b2) (aU hS b2) hne) ?_;rintro y w3 ⟨b3,hP3⟩;have hM3:=hM2.below b3;have hV3:=hV2.next b3;have c3:=b2.step b3;have hg5:=f1.at_;have hw1:=f1.size;have hs3:=b3.size;obtain ⟨A,cap,rfl,_⟩:=hP3.form;have hmax:=hP3.len.2.2;obtain ⟨P,hPe⟩: ∃P,P=ig N d l ws t:=⟨_,rfl⟩;rw [<-hPe] at hP3 hmax ⊢;refine ag ?_;refine aJ [5,11,22,23] (fun i:Nat=> [(24,none,.int .i64 (i:Int))])
  (fun i W=>i<=P.length/\But b w3 W/\w3.heap.size<=W.heap.size/\Ke W b (fun x=> ∃s∈P.take i,iJ N s=x)) (fun i=>P.length-i) 0 ⟨ZB,But.of_below ZA,ZC,[],hM3,by simp⟩ ?_
 rintro i W ⟨hi,hbut,hsz,m,hm,hmk⟩;have hbW:Below w1.heap.size w1 W:=But.below (hb2.step b3) hbut (by omega);have hbW0:=f1.below.step hbW;refine ag ?_;refine ai rfl (fun hlt=> ?_) (fun hge=> ?_)
 ·obtain ⟨s,hs,hsm⟩:=bD (l:=P) (k:=i) (by omega);have hPW:SPs W (.slice A P.length cap) P:=(hP3.mono (G5 hM3 hbut)).wider fun k hk=>by omega
  obtain ⟨ad,rfl⟩:=hPW.addr (by omega);have hcx:=(SPs.get hPW hs).1;have hVW:=hbut.blk hV3 (by omega);refine ag ?_;refine aF rfl (fun j u hj=>hcx j u hj) ?_;refine aM rfl MU rfl is58.q rfl rfl ?_;rintro g13 w4 f4;refine ag ?_;have hV4:=hVW.next f4.below;have b4:=hbW0.step f4.below;refine aF rfl (fun _ _ hv=>hV4.fld hv) ?_;refine aF rfl (fun _ _ hv=>f4.blk.fld hv) ?_;refine aA rfl (Jy (s:=s) (ht.below b4) (aL hN b4)) ?_;rintro y w5 ⟨b5,rfl⟩;have hm5:=(hm.below f4.below).below b5;refine fV jI (iJ N s) (vz:= .bool true) rfl underlying93 rfl rfl rfl hm5 ?_;rintro w6 hs6 hbut6 hM6;refine ag ?_;have s4:=f4.size;have a4:=f4.at_;have s5:=b5.size;refine aC (i+1) ⟨by omega,((hbut.step f4.below).step b5).trans hbut6,by omega,_,hM6,fun x=> ?_⟩;have hmk':=hmk x;rw [List.mem_map] at hmk' ⊢;rw [ZG,hs];constructor
  ·rintro ⟨p,hp,rfl⟩;rcases mem_lput.1 hp with rfl|⟨h,_⟩
   ·exact ⟨s,by simp,rfl⟩
   ·obtain ⟨z,hz,e⟩:=hmk'.1 ⟨p,h,rfl⟩;exact ⟨z,List.mem_append_left _ hz,e⟩
  ·rintro ⟨z,hz,e⟩;by_cases hx:x=iJ N s
   ·exact ⟨_,mem_lput.2 (.inl rfl),hx.symm⟩
   ·rcases ZH hz with hz|hz
    ·obtain ⟨p,hp,e2⟩:=hmk'.2 ⟨z,hz,e⟩;exact ⟨p,mem_lput.2 (.inr ⟨hp,by rw [e2]; exact hx⟩),e2⟩
    ·simp at hz;subst hz;exact absurd e.symm hx
 ·have hkeys: ∀x,x∈m.map (·.1)↔x∈gX N d l ws t:=fun x=>by
   rw [hmk x,hold_mem,<-hPe,List.take_of_length_le (by omega)]
  have hsub: ∀pre:List Int,pre.Nodup->(∀y∈pre,y∈m.map (·.1))->pre.length<=52:=fun pre hn hs=>by
   have h1:=gL (l:=pre) (k:=P.map (iJ N)) hn fun x hx=>by
    obtain ⟨s,hs,e⟩:=(hmk x).1 (hs x hx);exact List.mem_map.2 ⟨s,List.mem_of_mem_take hs,e⟩
   rw [List.length_map,hPe] at h1;have:=yf (N:=N) (d:=d) (l:=l) (ws:=ws) (t:=t);omega
  refine ag ?_;refine wu jI rfl rfl underlying93 rfl hm ?_;rintro it w5 hit hw5 hb5 hwk;refine ag ?_;have b05:=hbW0.step hb5;refine aJ [34] (fun x:List Int×Value×Option (Int×Value)=> [(14,none,x.2.1)])
   (fun x W'=>WalkM jI W' it b m x.1 x.2.2/\OwnS W' 3 1 x.2.1 x.1.length (x.1.map (Value.int .i64))/\Below w.heap.size w W'/\w5.heap.size<=W'.heap.size/\(∀q,x.2.1.ownBlock=some q->w5.heap.size<=q)/\x.1.Nodup/\ ∀y∈x.1,y∈m.map (·.1))
   (fun x=>m.length-x.1.length) ([],.slice none 0 0,none) ⟨hwk,OwnS.nil _ _ _,b05,ZC,fun q hq=>by simp [Value.ownBlock] at hq,List.nodup_nil,fun y hy=>by cases hy⟩ ?_
  rintro ⟨pre,vf,lst⟩ W1 ⟨hwk1,hO,hbW1,hsz1,hfr,hnd,hsub1⟩;dsimp only at hwk1 hO hbW1 hsz1 hfr hnd hsub1;have hlen:=hsub pre hnd hsub1;have hsw:=hbW0.size;refine ag ?_;refine zI jI rfl rfl rfl hwk1 (fun hall=> ?_) (fun k v w2 hkv hkn' hs2 hbut2 hext2 hwk2=> ?_)
  ·skip
   refine ag ?_;refine au rfl (fun h1=> ?_) (fun h2=> ?_)
   ·exact absurd h1 (by simp)
   ·refine ag ?_;refine aA rfl (Fa hO (by omega)) ?_;rintro y w8 ⟨hg8,hO8⟩;refine ag ?_;refine aW rfl ⟨hbW1.grown hg8 hbW1.size (fun q hq=>by have:=hfr q hq; omega),?_⟩;have e:(pre.mergeSort fun x y=>decide (x<=y))=gX N d l ws t:=wR (tY hnd) wY fun x=>by
     rw [List.mem_mergeSort,<-hkeys];refine ⟨fun h=>hsub1 x h,fun h=> ?_⟩;obtain ⟨p,hp,rfl⟩:=List.mem_map.1 h;exact hall p hp
    have hl8:(pre.mergeSort fun x y=>decide (x<=y)).length=pre.length:=List.length_mergeSort ..;rw [<-hl8] at hO8;rw [<-e];exact dz hO8 (fun x hx=>by
     have:=He ((hkeys x).1 (hsub1 x (List.mem_mergeSort.1 hx)));exact ⟨by omega,by omega⟩) (fun q hq=>hO8.lt hq) (by omega)
  ·skip
   refine ag ?_;refine au rfl (fun h1=> ?_) (fun h2=> ?_)
   ·refine ag ?_;refine ww jI rfl rfl rfl hwk2 ?_;refine ag ?_;refine ak 3 _ rfl rfl rfl gQ (aa rfl ct ah) rfl rfl rfl rfl rfl ?_;rintro g6 w6 f6;have hO2:OwnS w2 3 1 vf pre.length (pre.map (Value.int .i64)):=hO.kept fun q hq=>hbut2.block q (hO.lt hq) (fun e=>by have:=hfr q hq; cases e; omega);refine aK [.int .i64 k] rfl rfl lF rfl (hO2.below f6.below) rfl rfl (fun j u hj=>⟨_,rfl,f6.blk.fld hj⟩) (fun u hu=>by simp at hu; subst hu; rfl) (by omega) (by omega) ?_;rintro v7 w7 hO7 hg7 hn7;refine ag ?_;have s6:=f6.below.size;have s7:=hg7.size;have hb2':Below w.heap.size w w2:=hbW1.grown hbut2 hbW1.size (fun q hq=>by cases hq; omega);have hitlt:it<W1.heap.size:=by omega
    have hblt:b<W1.heap.size:=by omega
    refine aC (pre++ [k],v7,some (k,v)) ⟨hwk2.kept ?_ ?_,by simpa using hO7,(hb2'.step f6.below).grown hg7 (hb2'.step f6.below).size (fun q hq=>by have:=hfr q hq; omega),by omega,fun q hq=> ?_,?_,?_⟩ (hm:= ?_)
    ·rw [hg7.block it (by omega) (fun e=>by have:=hfr it e.symm; omega),f6.below.block it (by omega)]
    ·rw [hg7.block b (by omega) (fun e=>by have:=hfr b e.symm; omega),f6.below.block b (by omega)]
    ·rcases hn7 with h|h
     ·exact hfr q (by rw [<-h]; exact hq)
     ·rw [h] at hq;cases hq;omega
    ·refine List.nodup_append.2 ⟨hnd,by simp,fun a ha c hc e=> ?_⟩;rw [List.mem_singleton] at hc;subst hc;subst e;exact hkn' ha
    ·intro y hy;rcases ZH hy with h|h
     ·exact hsub1 y h
     ·rw [List.mem_singleton] at h;subst h;exact List.mem_map.2 ⟨_,hkv,rfl⟩
    ·have hle:=gL (l:=pre++ [k]) (k:=m.map (·.1)) (List.nodup_append.2 ⟨hnd,by simp,fun a ha c hc e=>by
      rw [List.mem_singleton] at hc;subst hc;subst e;exact hkn' ha⟩) (fun y hy=>by
      rcases ZH hy with h|h
      ·exact hsub1 y h
      ·rw [List.mem_singleton] at h;subst h;exact List.mem_map.2 ⟨_,hkv,rfl⟩)
     simp at hle ⊢;omega
   ·exact absurd h2 (by simp)
theorem Mm {g1:Nat} (h1:Blk w g1 30 [dv]) (h2:Blk w g2 31 [lv]) (h3:Blk w g3 30 [wv]) (h4:Blk w g4 37 (Ih c)) (hd:SD w dv d) (hl:SE w lv l) (hS:SD w wv ws) (hne: ∀e∈l,e.needs.length<=1000000) (hI:Knd.OK (.at c.to c.acc c.due)) :
  Gives prog 39 #[.pointer (some ⟨g1,0,none⟩),.pointer (some ⟨g2,0,none⟩),.pointer (some ⟨g3,0,none⟩),.pointer (some ⟨g4,0,none⟩)] w (ZJ w (.bool (!fM d l ws c.to c.acc c.due))):=by
 refine gv (f:=39) ?_;refine ag ?_;refine aj rfl (h1.cell 0) ?_;refine aj rfl (h2.cell 0) ?_;refine aj rfl (h3.cell 0) ?_;refine ag ?_;refine aj rfl (h4.fld (j:=2) rfl) ?_;refine ag ?_;refine aj rfl (h4.fld (j:=4) rfl) ?_;refine ag ?_;refine aj rfl (h4.fld (j:=5) rfl) ?_;refine aA rfl (Ch hd hl hS hne hI) ?_;rintro y w1 ⟨b1,rfl⟩;refine ag ?_;refine aW rfl ⟨b1,rfl⟩
theorem Mk (h2:Blk w g2 31 [lv]) (h3:Blk w g3 30 [wv]) (h4:Blk w g4 37 (Ih c)) (hl:SE w lv l) (hS:SD w wv ws) (hsm:l.length<=1000000) (hne: ∀e∈l,e.needs.length<=1000000) :
  Gives prog 41 #[.pointer (some ⟨g2,0,none⟩),.pointer (some ⟨g3,0,none⟩),.pointer (some ⟨g4,0,none⟩)] w (ZJ w (.bool (kH l ws c.to c.due))):=by
 refine gv (f:=41) ?_;refine ag ?_;refine jw [0,1,2,3] rfl ?_;refine aj rfl (h2.cell 0) ?_;refine aj rfl (h3.cell 0) ?_;refine ag ?_;refine aj rfl (h4.fld (j:=2) rfl) ?_;refine ag ?_;refine aj rfl (h4.fld (j:=5) rfl) ?_;refine aA rfl (K6 hl hS hsm hne) ?_;rintro y w1 ⟨b1,rfl⟩;refine ag ?_;refine aW rfl ⟨b1,rfl⟩
theorem Mj:Gives prog 42 #[] w (ZJ w (.agg #[.int .i64 2,.int .i64 (-1)])):=by
 refine gv (f:=42) ?_;refine ag ?_;refine dC rfl rfl uP ?_;rintro g0 w1 f1;refine ag ?_;refine jw [0] rfl ?_;refine aH [0,1] _ [.int .i64 2,.int .i64 (-1)] rfl rfl rfl (aa rfl ct (aa rfl ct ah)) (by kernel_rfl) ?_;have ha:=f1.at_;refine aQ rfl rfl rfl f1.blk is42.q rfl rfl rfl ?_;rintro w2 hB2 hbut2 hsz2;refine ag ?_;refine ow results42 underlying42 (by exact is42.q) rfl (hB2) (⟨f1.below.grown hbut2 f1.below.size (fun q hq=>by cases hq; omega),rfl⟩)
theorem Ml {g0 g1 g5 g6:Nat} {psv:Value} {ps:List Pp} (h0:Blk w g0 29 v.cells) (h1:Blk w g1 30 [dv]) (h2:Blk w g2 31 [lv]) (h3:Blk w g3 30 [wv]) (h4:Blk w g4 37 (Ih c)) (h5:Blk w g5 32 [kv]) (h6:Blk w g6 33 [psv])
 (ht:Tabs w) (hN:dI w v N) (hd:SD w dv d) (hl:SE w lv l) (hS:SD w wv ws) (hk:SL bC F w kv ks) (hps:SPp w psv ps) (hne: ∀e∈l,e.needs.length<=1000000) :
  Gives prog 40 #[.pointer (some ⟨g0,0,none⟩),.pointer (some ⟨g1,0,none⟩),.pointer (some ⟨g2,0,none⟩),.pointer (some ⟨g3,0,none⟩),.pointer (some ⟨g4,0,none⟩),.pointer (some ⟨g5,0,none⟩),.pointer (some ⟨g6,0,none⟩)] w (ZJ w (.agg #[.int .i64 1,.int .i64 (kM (gX N d l ws c.due) ks ps c.label c.due)])):=by
 refine gv (f:=40) ?_;refine ag ?_;refine dC rfl rfl uP ?_;rintro g7 w1 f1;refine ag ?_;have b1:=f1.below;refine aF rfl (fun _ _ hv=>(h0.next b1).fld hv) ?_;refine aj rfl ((h1.next b1).cell 0) ?_;refine aj rfl ((h2.next b1).cell 0) ?_;refine aj rfl ((h3.next b1).cell 0) ?_;refine ag ?_;refine aj rfl ((h4.next b1).fld (j:=5) rfl) ?_;refine aA rfl (nM (ht.below b1) (aL hN b1) (aU hd b1) (aY hl b1) (aU hS b1) hne) ?_;rintro y w2 ⟨b2,hH⟩;have b12:=b1.step b2;obtain ⟨H,hHe⟩: ∃H,H=gX N d l ws c.due:=⟨_,rfl⟩;rw [<-hHe] at hH ⊢;obtain ⟨A,cap,rfl,_⟩:=hH.form;have hmax:=hH.len.2.2;have hg7:=f1.at_;have hR2:=f1.blk.next b2;refine ag ?_;refine bg mixed (by kernel_rfl) ?_;refine aZ ?_;by_cases h1':H.length=1
 ·obtain ⟨o,hHo⟩: ∃o,H= [o]:=List.length_eq_one_iff.1 h1';have hx0:H[0]?=some o:=by rw [hHo]; rfl
  have hlb:kM H ks ps c.label c.due=if dec (sM ks ps c.label o c.due)=true then (-1:Int) else o:=by rw [hHo]; rfl
  rw [hlb];obtain ⟨ad,rfl⟩:=hH.addr (by omega);refine aB rfl ((h5.next b12).cell 0) ?_;refine aB rfl ((h6.next b12).cell 0) ?_;refine aZ ?_;refine aB rfl ((h4.next b12).fld (j:=0) rfl) ?_;refine aZ ?_;refine aB rfl ((show w2.cell? (ad.add ((0:Int).toNat*1))=some (.int .i64 o) from hH.getI hx0)) ?_;refine aZ ?_;refine aB rfl ((h4.next b12).fld (j:=5) rfl) ?_;refine dw (.ex (.bool (dec (sM ks ps c.label o c.due)))) trivial rfl rfl ie18.q rfl ct (ax rfl id (ax rfl id (ax rfl id (ax rfl id (ax rfl id aP))))) (fun _ w' hb'=>nP (hk.below (b12.step hb')) (fq hps (b12.step hb'))) ?_;refine aZ ?_;refine bR [0,1,2,3,4,5,6,7,8,31] rfl fun w3 b3=> ?_;refine aD ?_;have hR3:=hR2.next b3;have b13:=b12.step b3;have s12:=b12.size;have s1:=b1.size;have s13:=b13.size;refine au rfl (fun hyes=> ?_) (fun hnot=> ?_)
  ·have he:dec (sM ks ps c.label o c.due)=true:=by
    have h: ¬((H.length:Int)=1)∨dec (sM ks ps c.label o c.due)=true:=by simpa using hyes
    exact h.resolve_left (by omega)
   refine ag ?_;refine aH [0,1] _ [.int .i64 1,.int .i64 (-1)] rfl rfl rfl (aa rfl ct (aa rfl ct ah)) (by kernel_rfl) ?_;refine aQ rfl rfl rfl hR3 is42.q rfl rfl rfl ?_;rintro w4 hB4 hbut4 hsz4;refine ag ?_;refine ow results40 underlying42 (by exact is42.q) rfl (hB4) (⟨b13.grown hbut4 b13.size (fun q hq=>by cases hq; omega),by rw [if_pos he]⟩)
  ·have he:dec (sM ks ps c.label o c.due)=false:=by
    have h:((H.length:Int)=1)/\dec (sM ks ps c.label o c.due)=false:=by simpa using hnot
    exact h.2
   refine ag ?_;refine aj rfl ((show w3.cell? (ad.add ((0:Int).toNat*1))=some (.int .i64 o) from (hH.below b3).getI hx0)) ?_;refine aH [0,1] _ [.int .i64 1,.int .i64 o] rfl rfl rfl (aa rfl ct (aa rfl ct ah)) (by kernel_rfl) ?_;refine aQ rfl rfl rfl hR3 is42.q rfl rfl rfl ?_;rintro w4 hB4 hbut4 hsz4;refine ag ?_;refine ow results40 underlying42 (by exact is42.q) rfl (hB4) (⟨b13.grown hbut4 b13.size (fun q hq=>by cases hq; omega),by rw [if_neg (by rw [he]; simp)]⟩)
 ·have hne1:kM H ks ps c.label c.due= -1:=by
   rcases AY H ks ps c.label c.due with ⟨o,h,_⟩|⟨_,h⟩
   ·rw [h] at h1';exact absurd rfl h1'
   ·exact h
  rw [hne1];refine cZ (.bool false) rfl (by simp [aV]; omega) rfl rfl ?_;refine cZ (.bool false) rfl (by simp [aV]; omega) rfl rfl ?_;refine cZ (.bool false) rfl (by simp [aV]; omega) rfl rfl ?_;refine cZ (.bool false) rfl (by simp [aV]; omega) rfl rfl ?_;refine cZ (.bool false) rfl (by simp [aV]; omega) rfl rfl ?_;refine cZ (.bool false) rfl (by simp [aV]; omega) rfl rfl ?_;refine cZ (.bool false) rfl (by simp [aV]; omega) rfl rfl ?_;refine cZ (.bool false) rfl (by simp [aV]; omega) rfl rfl ?_;refine cZ (.bool false) rfl (by simp [aV]; omega) rfl rfl ?_;refine cZ (.bool false) rfl (by simp [aV]; omega) rfl rfl ?_;refine cZ (.bool false) rfl (by simp [aV]; omega) rfl rfl ?_;refine aZ ?_;refine bR [0,1,2,3,4,5,6,7,8,31] rfl fun w3 b3=> ?_;refine aD ?_;have hR3:=hR2.next b3;have b13:=b12.step b3;have s12:=b12.size;have s1:=b1.size;have s13:=b13.size;refine au rfl (fun hyes=> ?_) (fun hnot=> ?_)
  ·refine ag ?_;refine aH [0,1] _ [.int .i64 1,.int .i64 (-1)] rfl rfl rfl (aa rfl ct (aa rfl ct ah)) (by kernel_rfl) ?_;refine aQ rfl rfl rfl hR3 is42.q rfl rfl rfl ?_;rintro w4 hB4 hbut4 hsz4;refine ag ?_;refine ow results40 underlying42 (by exact is42.q) rfl (hB4) (⟨b13.grown hbut4 b13.size (fun q hq=>by cases hq; omega),rfl⟩)
  ·exfalso;simp at hnot;omega
theorem zk {nw:Nat} {n:Nat} (h:n=0↔SoundOK keys11 N):(decide ((n:Int)≠0)|| !dec (FitW d l nw)||decide ((d.length:Int)≠N.offs.length)|| !dec (ClOK N c))= !dec (DecOK N d l nw c):=by
 by_cases hq:DecOK N d l nw c
 ·rw [ay hq,ay hq.fit,ay hq.claim];have h1:=h.2 hq.sound;have h2:=hq.same;simp;omega
 ·rw [az hq];by_cases h1:SoundOK keys11 N
  ·by_cases h2:FitW d l nw
   ·by_cases h3:d.length=N.offs.length
    ·have h4: ¬ClOK N c:=fun h=>hq ⟨h1,h2,h3,h⟩;rw [az h4];simp
    ·have:((d.length:Int)≠N.offs.length):=by omega
     rw [decide_eq_true this];simp
   ·rw [az h2];simp
  ·have:((n:Int)≠0):=fun e=>h1 (h.1 (by omega));rw [decide_eq_true this];simp
theorem uo {psv:Value} {ps:List Pp} (ht:Tabs w) (hN:dI w v N) (hd:SD w dv d) (hl:SE w lv l) (hS:SD w wv ws) (hk:SL bC F w kv ks) (hps:SPp w psv ps) (hne: ∀e∈l,e.needs.length<=1000000) (hcI:ClI c) :
  Gives prog 13 #[.agg v.cells.toArray,dv,lv,wv,kv,psv,.agg (Ih c).toArray] w (ZJ w (.tuple #[.agg #[.int .i64 (iG N d l ws ks ps c).1.1,.int .i64 (iG N d l ws ks ps c).1.2],.int .i64 (iG N d l ws ks ps c).2])):=by
 have hform:=NetIn.form hN;obtain ⟨vc,vn,vo,vf,vl,vk⟩:=v;obtain ⟨⟨A1,c1,e1⟩,⟨A2,c2,e2⟩,⟨A3,c3,e3⟩,⟨A4,c4,e4⟩,⟨A5,c5,e5⟩,⟨A6,c6,e6⟩⟩:=id hform;dsimp only at e1 e2 e3 e4 e5 e6;subst e1 e2 e3 e4 e5 e6;obtain ⟨DA,dc,rfl,_⟩:=hd.form;obtain ⟨LA,lc,rfl,_⟩:=hl.form;obtain ⟨WA,wc,rfl,_⟩:=hS.form;obtain ⟨KA,kc,rfl,_⟩:=hk.form;obtain ⟨PA,pc,rfl,_⟩:=hps.form;have m1:=hd.len.2.2;have m2:=hl.len.2.2;have m3:=hS.len.2.2;have m4:=hN.f.len.2.2;have m5:=hps.len.2.2;refine gv (f:=13) ?_;refine ag ?_;refine aG rfl rfl rfl rfl ?_;rintro g7 w1 f1;refine aG rfl rfl rfl rfl ?_;rintro g8 w2 f2;refine aG rfl rfl rfl rfl ?_;rintro g9 w3 f3;refine aG rfl rfl rfl rfl ?_;rintro g10 w4 f4;refine aG rfl rfl rfl rfl ?_;rintro g11 w5 f5;refine aG rfl rfl rfl rfl ?_;rintro g12 w6 f6;refine aG rfl rfl rfl rfl ?_;rintro g13 w7 f7;refine dC rfl rfl uP ?_;rintro g14 w8 f8;refine ag ?_;have b78:=f8.below;have b68:=f7.below.step b78;have b58:=f6.below.step b68;have b48:=f5.below.step b58;have b38:=f4.below.step b48;have b28:=f3.below.step b38;have b18:=f2.below.step b28;have b8:=f1.below.step b18;have hB7:=f1.blk.next b18;have hB8:=f2.blk.next b28;have hB9:=f3.blk.next b38;have hB10:=f4.blk.next b48
 have hB11:=f5.blk.next b58;have hB12:=f6.blk.next b68;have hB13:=f7.blk.next b78;have hB14:=f8.blk;have q14:=f8.at_;have s7:w.heap.size<=w7.heap.size:=by
  have:=f1.below.size;have:=f2.below.size;have:=f3.below.size;have:=f4.below.size;have:=f5.below.size;have:=f6.below.size;have:=f7.below.size;omega
 have q8:=f8.size;have hN8:=aL hN b8;refine aF rfl (fun _ _ hv=>hB7.fld hv) ?_;refine aA rfl (CJ (v:=⟨.slice A1 N.cals.length c1,.slice A2 N.names.length c2,.slice A3 N.ops.length c3,.slice A4 N.offs.length c4,.slice A5 N.lines.length c5,.slice A6 N.classes.length c6⟩) (ht.below b8) hN8) ?_;rintro y w9 ⟨d9,YA,n,yc,rfl,hsound⟩;refine ag ?_;refine aj rfl ((hB8.next d9).cell 0) ?_;refine aj rfl ((hB9.next d9).cell 0) ?_;refine aj rfl ((hB10.next d9).cell 0) ?_;refine aO (cap:= []) rfl rfl ie37.q rfl ct (aa rfl id (aa rfl id (aa rfl id ah))) (fun _=>zT (aU hd (b8.step d9)) (aY hl (b8.step d9)) m3) ?_;rintro w10 d10;refine ag ?_;have d8:=d9.step d10;refine aj rfl ((hB8.next d8).cell 0) ?_;refine ag ?_;refine aj rfl ((hB7.next d8).fld (j:=3) rfl) ?_;refine ag ?_;refine aF rfl (fun _ _ hv=>(hB7.next d8).fld hv) ?_;refine aF rfl (fun _ _ hv=>(hB13.next d8).fld hv) ?_;refine aO (cap:= []) rfl rfl ie38.q rfl ct (aa rfl id (aa rfl id ah)) (fun _=>I9 (v:=⟨.slice A1 N.cals.length c1,.slice A2 N.names.length c2,.slice A3 N.ops.length c3,.slice A4 N.offs.length c4,.slice A5 N.lines.length c5,.slice A6 N.classes.length c6⟩) (c:=c) (aL hN8 d8)) ?_;rintro w11 d11;refine ag ?_
 refine aI [0,1,2,3,4,5,6,7,8,9,10,11,12,13,14,15,19] rfl ?_;have e8:=d8.step d11;have b11:=b8.step e8;refine au rfl (fun hbad=> ?_) (fun hgood=> ?_)
 ·have hD:(!dec (DecOK N d l ws.length c))=true:=by rw [<-zk hsound]; exact hbad
  refine ag ?_;refine aH [] _ [.int .i64 0,.int .i64 0] rfl rfl rfl ah (by kernel_rfl) ?_;refine aQ rfl rfl rfl (hB14.next e8) is42.q rfl rfl rfl ?_;rintro wr hBr hbutr hszr;refine ag ?_;refine ik results13 underlying42 (by exact is42.q) rfl rfl hBr ⟨b11.grown hbutr b11.size (fun q hq=>by cases hq; omega),?_⟩;rw [show iG N d l ws ks ps c=((0,0),1) by unfold iG; rw [if_pos (by simpa using hD)]]
 have hD:dec (DecOK N d l ws.length c)=true:=by
  have:(!dec (DecOK N d l ws.length c))=false:=by rw [<-zk hsound]; exact hgood
  simpa using this
 have hDc:DecOK N d l ws.length c:=dec_iff.1 hD;refine ag ?_;refine aj rfl ((hB12.next e8).cell 0) ?_;refine ag ?_;refine ai rfl (fun hmany=> ?_) (fun hfew=> ?_)
 ·refine ag ?_;refine aH [] _ [.int .i64 0,.int .i64 0] rfl rfl rfl ah (by kernel_rfl) ?_;refine aQ rfl rfl rfl (hB14.next e8) is42.q rfl rfl rfl ?_;rintro wr hBr hbutr hszr;refine ag ?_;refine ik results13 underlying42 (by exact is42.q) rfl rfl hBr ⟨b11.grown hbutr b11.size (fun q hq=>by cases hq; omega),?_⟩;rw [show iG N d l ws ks ps c=((0,0),2) by unfold iG; rw [if_neg (by rw [hD]; simp),if_pos (by omega)]]
 refine ag ?_;refine aj rfl ((hB10.next e8).cell 0) ?_;refine ag ?_;refine aI [0,1,2,3,4,5,6,7,8,9,10,11,12,13,14,15,51] rfl ?_;refine ai rfl (fun hno=> ?_) (fun hsome=> ?_)
 ·refine ag ?_;refine aH [] _ [.int .i64 0,.int .i64 0] rfl rfl rfl ah (by kernel_rfl) ?_;refine aQ rfl rfl rfl (hB14.next e8) is42.q rfl rfl rfl ?_;rintro wr hBr hbutr hszr;refine ag ?_;refine ik results13 underlying42 (by exact is42.q) rfl rfl hBr ⟨b11.grown hbutr b11.size (fun q hq=>by cases hq; omega),?_⟩;rw [show iG N d l ws ks ps c=((0,0),280) by unfold iG; rw [if_neg (by rw [hD]; simp),if_neg (by omega),if_pos (List.eq_nil_of_length_eq_zero (by omega))]]
 have hds:iG N d l ws ks ps c=(oK N d l ws ks ps c,0):=by
  unfold iG;rw [if_neg (by rw [hD]; simp),if_neg (by omega),if_neg (fun e=>hsome (by rw [e]; rfl))]
 rw [hds];have hc:=hDc.claim;have hlm:=hDc.fit.few;have hKI:Knd.OK (.at c.to c.acc c.due):=⟨hcI.t,hcI.a,hcI.d⟩;refine ag ?_;refine aN rfl rfl (aa rfl ct (aa rfl ct (aa rfl ct (aa rfl ct ah)))) ?_;refine aN rfl rfl (aa rfl ct (aa rfl ct (aa rfl ct (aa rfl ct (aa rfl ct (aa rfl ct (aa rfl ct ah))))))) ?_;refine aH [0,1] _ [.func (.func 39) #[] #[.pointer (some ⟨g8,0,none⟩),.pointer (some ⟨g9,0,none⟩),.pointer (some ⟨g10,0,none⟩),.pointer (some ⟨g13,0,none⟩)],.func (.func 40) #[] #[.pointer (some ⟨g7,0,none⟩),.pointer (some ⟨g8,0,none⟩),.pointer (some ⟨g9,0,none⟩),.pointer (some ⟨g10,0,none⟩),.pointer (some ⟨g13,0,none⟩),.pointer (some ⟨g11,0,none⟩),.pointer (some ⟨g12,0,none⟩)]] rfl rfl rfl (aa rfl ct (aa rfl ct ah)) (by kernel_rfl) ?_;refine aN rfl rfl (aa rfl ct (aa rfl ct (aa rfl ct ah))) ?_;refine aH [0,1] _ [.func (.func 41) #[] #[.pointer (some ⟨g9,0,none⟩),.pointer (some ⟨g10,0,none⟩),.pointer (some ⟨g13,0,none⟩)],.func (.func 42) #[] #[]] rfl rfl rfl (aa rfl ct (aa rfl ct ah)) (by kernel_rfl) ?_;refine ak 91 _ rfl rfl rfl OP (aa rfl ct (aa rfl ct ah)) rfl rfl rfl rfl rfl ?_;rintro g61 w12 f12;refine ag ?_;have e12:=e8.step f12.below;have b12:=b11.step f12.below
 have hRow:SL (Aj 2) (fun k=>k<w12.heap.size) w12 (.slice (some ⟨g61,0,none⟩) 2 2) [[.func (.func 39) #[] #[.pointer (some ⟨g8,0,none⟩),.pointer (some ⟨g9,0,none⟩),.pointer (some ⟨g10,0,none⟩),.pointer (some ⟨g13,0,none⟩)],.func (.func 40) #[] #[.pointer (some ⟨g7,0,none⟩),.pointer (some ⟨g8,0,none⟩),.pointer (some ⟨g9,0,none⟩),.pointer (some ⟨g10,0,none⟩),.pointer (some ⟨g13,0,none⟩),.pointer (some ⟨g11,0,none⟩),.pointer (some ⟨g12,0,none⟩)]],[.func (.func 41) #[] #[.pointer (some ⟨g9,0,none⟩),.pointer (some ⟨g10,0,none⟩),.pointer (some ⟨g13,0,none⟩)],.func (.func 42) #[] #[]]]:=su (by decide) _ f12.blk rfl (by simp) (by simp);refine aJ [14,62,63] (fun i:Nat=> [(64,none,.int .i64 (i:Int))])
  (fun i W=>i<=2/\Below w12.heap.size w12 W/\(1<=i->fM d l ws c.to c.acc c.due=true)/\(2<=i->kH l ws c.to c.due=false)) (fun i=>2-i) 0 ⟨by omega,ZA,fun h=>by omega,fun h=>by omega⟩ ?_
 rintro i W ⟨hi,hB,hr1,hr2⟩;refine ag ?_;refine aI [14,62,63,64,65] rfl ?_;have eW:=e12.step hB;have bW:=b12.step hB;refine ai rfl (fun hlt=> ?_) (fun hge=> ?_)
 ·have hRW:=hRow.below hB;obtain rfl|rfl:i=0∨i=1:=by omega
  ·have hcx:=(sw hRW (i:=0) rfl).1;refine ag ?_;refine aF rfl (fun j u hj=>hcx j u hj) ?_;refine aM rfl MR rfl is91.q rfl rfl ?_;rintro g18 w15 f15;refine ag ?_;have eX:=eW.step f15.below;have bX:=bW.step f15.below;refine aj rfl (f15.blk.fld (j:=0) rfl) ?_;refine bK rfl rfl ie39.q rfl ah (Mm (hB8.next eX) (hB9.next eX) (hB10.next eX) (hB13.next eX) (aU hd bX) (aY hl bX) (aU hS bX) hne hKI) ?_;rintro y w16 ⟨b16,rfl⟩;have eY:=eX.step b16;have bY:=bX.step b16;refine ag ?_;refine au rfl (fun hyes=> ?_) (fun hnot=> ?_)
   ·have hre:fM d l ws c.to c.acc c.due=false:=by simpa using hyes
    refine ag ?_;refine aj rfl ((f15.blk.next b16).fld (j:=1) rfl) ?_;refine bK rfl rfl ie40.q rfl ah (Ml (hB7.next eY) (hB8.next eY) (hB9.next eY) (hB10.next eY) (hB13.next eY) (hB11.next eY) (hB12.next eY) (ht.below bY) (aL hN bY) (aU hd bY) (aY hl bY) (aU hS bY) (hk.below bY) (fq hps bY) hne) ?_;rintro y w17 ⟨b17,rfl⟩;have bZ:=bY.step b17;refine aQ rfl rfl rfl ((hB14.next eY).next b17) is42.q rfl rfl rfl ?_;rintro wr hBr hbutr hszr;refine ag ?_;refine ik results13 underlying42 (by exact is42.q) rfl rfl hBr ⟨bZ.grown hbutr bZ.size (fun q hq=>by cases hq; omega),?_⟩;unfold oK; rw [if_pos hre]
   ·have hre:fM d l ws c.to c.acc c.due=true:=by simpa using hnot
    refine ag ?_;refine aC 1 ⟨by omega,(hB.step f15.below).step b16,fun _=>hre,fun h=>by omega⟩
  ·have hcx:=(sw hRW (i:=1) rfl).1;refine ag ?_;refine aF rfl (fun j u hj=>hcx j u hj) ?_;refine aM rfl MR rfl is91.q rfl rfl ?_;rintro g18 w15 f15;refine ag ?_;have eX:=eW.step f15.below;have bX:=bW.step f15.below;have hre:=hr1 (by omega);refine aj rfl (f15.blk.fld (j:=0) rfl) ?_;refine bK rfl rfl ie41.q rfl ah (Mk (hB9.next eX) (hB10.next eX) (hB13.next eX) (aY hl bX) (aU hS bX) (by omega) hne) ?_;rintro y w16 ⟨b16,rfl⟩;have eY:=eX.step b16;have bY:=bX.step b16;refine ag ?_;refine au rfl (fun hyes=> ?_) (fun hnot=> ?_)
   ·refine ag ?_;refine aj rfl ((f15.blk.next b16).fld (j:=1) rfl) ?_;refine bK rfl rfl ie42.q rfl ah (Mj) ?_;rintro y w17 ⟨b17,rfl⟩;have bZ:=bY.step b17;refine aQ rfl rfl rfl ((hB14.next eY).next b17) is42.q rfl rfl rfl ?_;rintro wr hBr hbutr hszr;refine ag ?_;refine ik results13 underlying42 (by exact is42.q) rfl rfl hBr ⟨bZ.grown hbutr bZ.size (fun q hq=>by cases hq; omega),?_⟩;unfold oK; rw [if_neg (by rw [hre]; simp),if_pos hyes]
   ·refine ag ?_;refine aC 2 ⟨by omega,(hB.step f15.below).step b16,fun _=>hre,fun _=>hnot⟩
 ·have hre:=hr1 (by omega);have hse:=hr2 (by omega);refine ag ?_;refine aH [0,1] _ [.int .i64 0,.int .i64 (-1)] rfl rfl rfl (aa rfl ct (aa rfl ct ah)) (by kernel_rfl) ?_;refine aQ rfl rfl rfl (hB14.next eW) is42.q rfl rfl rfl ?_;rintro wr hBr hbutr hszr;refine ag ?_;refine ik results13 underlying42 (by exact is42.q) rfl rfl hBr ⟨bW.grown hbutr bW.size (fun q hq=>by cases hq; omega),?_⟩;unfold oK; rw [if_neg (by rw [hre]; simp),if_neg (by rw [hse]; simp)]
theorem Im {v:Value} {a b:Int} (h:SL bC F w v [a,b]) (ha:eB a) (hb:eB b):Gives prog 245 #[v] w fun u w'=>Below w.heap.size w w'/\OwnS w' 3 1 u 1 [.int .i64 (dU [1,a,b])]/\ ∀g,u.ownBlock=some g->w.heap.size<=g:=by
 obtain ⟨A,cap,hv,_⟩:=h.form;have hv:v= .slice A 2 cap:=hv;subst hv;obtain ⟨ad,rfl⟩:=h.addr (by simp);refine gv (f:=245) ?_;refine ag ?_;refine aJ [0] (fun x:Nat×Value=> [(3,none,x.2),(4,none,.int .i64 (x.1:Int))])
  (fun x W=>(x.1=0/\W=w/\x.2= .slice none 0 0)∨(x.1=2/\Below w.heap.size w W/\OwnS W 3 1 x.2 1 [.int .i64 (dU [1,a,b])]/\ ∀g,x.2.ownBlock=some g->w.heap.size<=g)) (fun x=>2-x.1) (0,.slice none 0 0) (.inl ⟨rfl,rfl,rfl⟩) ?_
 rintro ⟨i,vf⟩ W hJ;dsimp only at hJ;rcases hJ with ⟨rfl,rfl,rfl⟩|⟨rfl,hB,hO,hfr⟩
 ·skip
  refine ag ?_;refine ai rfl (fun hlt=> ?_) (fun hge=> ?_)
  ·skip
   refine ag ?_;refine dE mixed fun W5 hW5=> ?_;refine dL .weak 13 (by kernel_rfl) (by kernel_rfl) rfl rfl hW5 ?_;refine aZ ?_;refine aB rfl (h.getI (i:=0) rfl) ?_;refine aZ ?_;refine aB rfl ((show W.cell? (ad.add ((((0:Nat):Int)+1).toNat*1))=some (.int .i64 b) from h.getI (i:=1) rfl)) ?_;refine cK 3 _ rfl rfl rfl gQ (ax rfl ct (ax rfl ct (ax rfl ct aP))) rfl rfl rfl rfl rfl ?_;refine iR (.ex (.int .i64 (dU [1,a,b]))) (trivial) rfl rfl ie213.q rfl ct (bJ rfl ct fK) (fun _ w' hb' vs hs=> ?_) ?_
   ·obtain ⟨u,rfl,⟨g,rfl,hB⟩⟩:=Sats.one hs;exact (xF (kL [1,a,b] hB rfl (lh (bN (by decide)) ha hb) (by simp))).mono fun x w'' ⟨h1,h2⟩=>⟨h1 ▸ ZA,h2⟩
   refine cK 3 _ rfl rfl rfl gQ (ax rfl ct aP) rfl rfl rfl rfl rfl ?_;refine dD (ii [0,3,4,12] [(0,_,_),(3,_,_),(4,_,_),(12,_,_)] rfl [24] rfl fun vs w5 b5 hs5=>ek ?_);obtain ⟨v24,rfl,h24⟩:=Sats.one hs5;obtain ⟨g24,rfl,hB24⟩:=h24;refine bV (by kernel_rfl) (by kernel_rfl) rfl ?_;refine aK [.int .i64 (dU [1,a,b])] rfl rfl lF rfl (OwnS.nil _ _ _) rfl rfl (fun j u hj=>⟨_,rfl,hB24.fld hj⟩) (fun u hu=>by simp at hu; subst hu; rfl) (by decide) (by decide) ?_;rintro v6 w6 hO6 hg6 hn6;refine bG (aS [0,3,4,25] [(0,_,_),(3,_,_),(4,_,_),(25,_,_)] rfl (dJ ?_));refine bV (by kernel_rfl) (by kernel_rfl) rfl ?_;refine aT df rfl ⟨ct,trivial⟩ (fun _=>trivial) ?_;refine bG (aS [0,3,4] [(0,_,_),(3,_,_),(4,_,_)] rfl (dJ ?_));refine ed rfl (aS [0,3,4] [(0,_,_),(3,_,_),(4,_,_)] rfl (bP (aD ?_)));refine ag ?_;have b6:Below W.heap.size W w6:=b5.grown hg6 b5.size (fun q hq=>by simp [Value.ownBlock] at hq);refine aC (2,v6) (.inr ⟨rfl,b6,hO6,fun g hg=> ?_⟩);rcases hn6 with h|h
   ·rw [h] at hg; simp [Value.ownBlock] at hg
   ·rw [h] at hg; cases hg; exact b5.size
  ·exact absurd hge (by decide)
 ·skip
  refine ag ?_;refine ai rfl (fun hlt=> ?_) (fun hge=> ?_)
  ·exact absurd hlt (by simp)
  ·refine ag ?_;refine ai rfl (fun h1=> ?_) (fun h2=> ?_)
   ·exact absurd h1 (by decide)
   ·refine ag ?_;refine aW rfl ⟨hB,hO,hfr⟩
theorem zZ {v:Value} {a b:Int} (h:SL bC F w v [a,b]):Gives prog 222 #[v,.int .i64 0] w (ZJ w (.int .i64 b)):=by
 obtain ⟨A,cap,hv,_⟩:=h.form;have hv:v= .slice A 2 cap:=hv;subst hv;obtain ⟨ad,rfl⟩:=h.addr (by simp);refine gv (f:=222) ?_;refine ag ?_;refine aI [0,1,4,5] rfl ?_;refine ai rfl (fun h1=> ?_) (fun h2=> ?_)
 ·exact absurd h1 (by decide)
 ·refine ag ?_;refine ai rfl (fun h3=> ?_) (fun h4=> ?_)
  ·refine ag ?_;refine aj rfl ((show w.cell? (ad.add (((0:Int)+1).toNat*1))=some (.int .i64 b) from h.getI (i:=1) rfl)) ?_;refine ag ?_;refine aW rfl ⟨ZA,rfl⟩
  ·exact absurd h4 (by decide)
abbrev ML:=Value×List Int
def iU (x y:ByteArray):List Int:= [cB x,cB y]
def mP (x y:ByteArray):List Int:= [dU [1,cB x,cB y]]
def M9 (x y:ByteArray) (pre:List ML) (e:ML) (M:Nat->Prop) (W:World):Prop:=pre.map (·.2)= [iU x y,mP x y].take pre.length/\ [iU x y,mP x y][pre.length]?=some e.2/\SL bC (fun k=>k<W.heap.size/\ ¬M k) W e.1 e.2
theorem u7 {g:Nat} (hx:x.size<=1000000) (hy':y.size<=1000000) (hB:Blk w g 23 [.slice (some ⟨gl,0,none⟩) 2 cl]) (hL:Blk w gl 9 [.string x,.string y]) :
  C4 prog 244 [.pointer (some ⟨g,0,none⟩)] (fun e:ML=> [e.1]) (M9 x y) (fun xs=>xs.map (·.2)= [iU x y,mP x y]) (fun k=>k=g∨k=gl) w:=by
 intro yl J Jx W M hown hsz hyl hM hMlt hJ hJx hy h0;have hBW:Blk W g 23 [.slice (some ⟨gl,0,none⟩) 2 cl]:=(hown g (.inl rfl) hB.lt).trans hB;have hLW:Blk W gl 9 [.string x,.string y]:=(hown gl (.inr rfl) hL.lt).trans hL;refine gv (f:=244) ?_;refine ag ?_;refine aj rfl (hBW.cell 0) ?_;refine ag ?_;refine ai rfl (fun hz=> ?_) (fun hz=> ?_)
 ·exact absurd hz (by decide)
 refine ag ?_;refine aj rfl (hBW.cell 0) ?_;refine ag ?_;refine bI rfl rfl (dH lF EO rfl) rfl rfl (by omega) (by omega) ?_;rintro g3 w1 f1;refine ag ?_;have q3:=f1.at_;have s3:=f1.size;refine aj rfl ((hBW.next f1.below).cell 0) ?_;refine ag ?_;have hO1:OwnS w1 3 1 (.slice (some ⟨g3,0,none⟩) 2 2) 2 (List.replicate 2 (Value.int .i64 0)):=bu f1.blk (by simp) (by omega);have hlg:gl<W.heap.size:=hLW.lt;refine aJ [0,3,12,13] (fun i:Nat=> [(14,none,.int .i64 (i:Int))])
  (fun i W2=>i<=2/\But g3 w1 W2/\w1.heap.size<=W2.heap.size/\OwnS W2 3 1 (.slice (some ⟨g3,0,none⟩) 2 2) 2 (((iU x y).map (Value.int .i64)).take i++List.replicate (2-i) (Value.int .i64 0))) (fun i=>2-i) 0 ⟨by omega,But.of_below ZA,ZC,by simpa using hO1⟩ ?_
 rintro i W2 ⟨hi,hbut,hsz2,hO⟩;have hb2:Below W.heap.size W W2:=But.below f1.below hbut (by omega);refine ag ?_;refine ai rfl (fun hlt=> ?_) (fun hge=> ?_)
 ·have hL2:=hLW.next hb2;obtain ⟨s,hs,hsm⟩:=bD (l:= [x,y]) (k:=i) (by simp; omega);have hsz:s.size<=1000000:=by
   simp only [List.mem_cons,List.not_mem_nil,or_false] at hsm;rcases hsm with rfl|rfl<;>assumption
  have hget:W2.cell? (Addr.add ⟨gl,0,none⟩ ((i:Int).toNat*1))=some (.string s):=by
   rw [show (i:Int).toNat*1=i by omega];refine hL2.fld (cs:= [.string x,.string y]) ?_;have e:([x,y].map Value.string)[i]?=some (.string s):=by rw [List.getElem?_map,hs]; rfl
   exact e
  have hrow:((iU x y).map (Value.int .i64))[i]?=some (.int .i64 (cB s)):=by
   have e:iU x y= [x,y].map cB:=rfl;rw [e,List.map_map,List.getElem?_map,hs];rfl
  refine ag ?_;refine aj rfl hget ?_;refine ag ?_;refine aA rfl (Cx hsz) ?_;rintro u w3 ⟨b3,rfl⟩;refine ak 3 _ rfl rfl rfl gQ (aa rfl ct (aa rfl ct ah)) rfl rfl rfl rfl rfl ?_;rintro g5 w5 f5;have hl5:SI w5 (.slice (some ⟨g5,0,none⟩) 2 2) [0,oh s]:=kL _ f5.blk rfl (fun z hz=>by
   simp only [List.mem_cons,List.not_mem_nil,or_false] at hz;rcases hz with rfl|rfl
   ·exact bN (by decide)
   ·exact fF _) (by simp)
  refine aA rfl (xF hl5) ?_;rintro u w6 ⟨rfl,rfl⟩;have hO6:=(hO.below b3).below f5.below;have s53:=b3.size;have s55:=f5.below.size;refine ag ?_;refine eF rfl is3.q rfl rfl hO6 (by simp [iU]; omega) rfl ?_;rintro w7 hO7 hb7 hs7;refine ag ?_;refine aC (i+1) ⟨by omega,((hbut.step b3).step f5.below).trans hb7,by omega,?_⟩;rw [<-vN hrow (by omega)];have e2:cB s=dU [0,oh s]:=rfl;simpa only [Nat.mul_one,Int.toNat_natCast,e2] using hO7
 have hie:i=2:=by omega
 subst hie;have hj0:J [] M W2:=hJ _ _ _ _ h0 (.of_below hb2);have hs2:=hb2.size;have hr0:SL bC (fun k=>W.heap.size<=k/\k<W2.heap.size/\ ¬M k) W2 (.slice (some ⟨g3,0,none⟩) 2 2) (iU x y):=by
  have e:((iU x y).map (Value.int .i64)).take 2++List.replicate (2-2) (Value.int .i64 0)=(iU x y).map (Value.int .i64):=rfl;rw [e] at hO;refine dz hO (fun z hz=> ?_) (fun q hq=> ?_) (by simp [iU])
  ·simp only [iU,List.mem_cons,List.not_mem_nil,or_false] at hz;rcases hz with rfl|rfl<;>exact fF _
  ·have:=hO.lt hq;simp [Value.ownBlock] at hq;subst hq;exact ⟨by omega,this,fun h=>by have:=hMlt _ h; omega⟩
 refine ag ?_;refine aJ [0] (fun e:List ML×(Nat->Prop)×Value=> [(3,none,e.2.2)])
  (fun e W'=>J e.1 e.2.1 W'/\e.1.length<=1/\e.1.map (·.2)= [iU x y,mP x y].take e.1.length/\W2.heap.size<=W'.heap.size/\(∀k,e.2.1 k->k<W'.heap.size)/\ ∃r,[iU x y,mP x y][e.1.length]?=some r/\SL bC (fun k=>W.heap.size<=k/\k<W'.heap.size/\ ¬e.2.1 k) W' e.2.2 r) (fun e=>2-e.1.length) ([],M,.slice (some ⟨g3,0,none⟩) 2 2)
  ⟨hj0,by simp,rfl,ZC,fun k hk=>by have:=hMlt k hk; omega,_,rfl,hr0⟩ ?_
 rintro ⟨pre,M1,rv⟩ W1 ⟨hj,hpn,heq,hsz1,hM1,r,hr,hrow⟩;dsimp only at hj hpn heq hsz1 hM1 hr hrow;obtain ⟨A,cap,rfl,_⟩:=hrow.form;have hrm:=hrow.len.2.2;refine ag ?_;refine lI rfl rfl rfl (aa rfl ct ah) (hy pre (.slice A r.length cap,r) M1 W1 hj ⟨heq,hr,hrow.wider fun k hk=>hk.2⟩ hM1 (by omega)) ?_;rintro yb W3 hR;refine ag ?_;refine aI [0,3,34] rfl ?_;have hall:(pre++ [((.slice A r.length cap,r):ML)]).map (·.2)= [iU x y,mP x y].take (pre.length+1):=by
  rw [List.map_append,heq,ZG,hr];rfl
 refine au rfl (fun hgo=> ?_) (fun hend=> ?_)
 ·have hyb:yb=true/\1<r.length:=by
   have h:yb=true/\(1:Int)<r.length:=by simpa using hgo
   exact ⟨h.1,by omega⟩
  have hp0:pre.length=0:=by
   rcases ZI 0 pre.length with h|h
   ·have h1:pre.length=1:=by omega
    rw [h1] at hr;have:r=mP x y:=by simpa using hr.symm
    rw [this] at hyb;simp [mP] at hyb
   ·omega
  rw [hp0] at hr hall;have hre:r=iU x y:=by simpa using hr.symm
  subst hre;obtain ⟨M',hj3,hm3⟩:=hR.yes hyb.1;have hrs:=hR.size;have hrow3:SL bC (fun k=>W.heap.size<=k/\k<W1.heap.size/\ ¬M1 k) W3 (.slice A (iU x y).length cap) (iU x y):=hrow.mono (bn fun k hk hlt=>hR.kept k hk.2.1 hk.2.2 (by omega));refine ag ?_;refine aA rfl (Im (a:=cB x) (b:=cB y) hrow3 (fF _) (fF _)) ?_;rintro u w5 ⟨b5,hO5,hf5⟩;refine ag ?_;have hs5:=b5.size;refine aC (pre++ [(.slice A (iU x y).length cap,iU x y)],M',u) ⟨hJ _ _ _ _ hj3 (.of_below b5),by rw [List.length_append,hp0]; simp,?_,by omega,fun k hk=>by have:=(hm3 k hk).2; omega,mP x y,?_,?_⟩ (hm:=by simp [hp0])
  ·dsimp only;rw [List.length_append,hp0];exact hall
  ·dsimp only;rw [List.length_append,hp0];rfl
  ·refine dz (l:=mP x y) hO5 (fun z hz=> ?_) (fun q hq=> ?_) (by simp [mP])
   ·rw [mP,List.mem_singleton] at hz;subst hz;exact fF _
   ·have h1:=hf5 q hq;exact ⟨by omega,hO5.lt hq,fun h=>by have:=(hm3 q h).2; omega⟩
 ·cases yb with
  | false =>
   refine ag ?_;obtain ⟨M',hx⟩:=hR.no rfl
   refine ul results244 (.inr ⟨_,M',hx⟩)
  | true =>
   have hr1: ¬1<r.length:=by
    have h: ¬(1:Int)<r.length:=by simpa using hend
    omega
   have hp1:pre.length=1:=by
    rcases ZI 0 pre.length with h|h
    ·omega
    ·have h0:pre.length=0:=by omega
     rw [h0] at hr;have:r=iU x y:=by simpa using hr.symm
     rw [this] at hr1;simp [iU] at hr1
   obtain ⟨M',hj3,hm3⟩:=hR.yes rfl;refine ag ?_;refine ul results244 (.inl ⟨_,M',by show (pre++ [((.slice A r.length cap,r):ML)]).map (·.2)=_; rw [hall,hp1]; rfl,hj3⟩)
theorem FN {v:Value} (h1:v.oneCell'=true) (hc:v.cells= [v].toArray):Gives prog 221 #[v] w fun u w'=>Below w.heap.size w w'/\ ∃g,u= .func (.func 244) #[] [.pointer (some ⟨g,0,none⟩)].toArray/\Blk w' g 23 [v]/\w.heap.size<=g:=by
 refine gv (f:=221) ?_;refine ag ?_;refine aG rfl rfl rfl hc ?_;rintro g w1 f1;refine ag ?_;refine aN rfl rfl (aa rfl ct ah) ?_;refine ag ?_;refine aW rfl ⟨f1.below,g,rfl,f1.blk,by have:=f1.at_; omega⟩
def FT (x y:ByteArray):Nat->Int
 | 0=>7
 | 1=>cB x
 | _=>dU [1,cB x,cB y]
theorem K9 (hx:x.size<=1000000) (hy:y.size<=1000000) (hL:Blk w gl 9 [.string x,.string y]) :
  Gives prog 155 #[.slice (some ⟨gl,0,none⟩) 2 cl] w (ZJ w (.int .i64 (dU [1,cB x,cB y]))):=by
 refine LX (f:=155) ?_;refine ag ?_;refine ai rfl (fun hz=> ?_) (fun hz=> ?_)
 ·exact absurd hz (by decide)
 refine ag ?_;refine il rfl Pb rfl is3.q rfl ?_;rintro g3 w1 f1;refine ag ?_;refine aA rfl (FN rfl rfl) ?_;rintro yv w2 ⟨b2,g,rfl,hB2,hgg⟩;have b02:=f1.below.step b2;have hL2:=hL.next b02;have hg3:=f1.at_;have hg3s:=f1.size;have hgl:=hL.lt;have hB3:=f1.blk.next b2;have hit:=u7 hx hy hB2 hL2;have hs2:=b2.size;refine ag ?_;refine lL rfl ie244.q hit rfl (fun _=>rfl)
  (fun pre M W=>Below w.heap.size w W/\w2.heap.size<=W.heap.size/\Blk W g3 3 [.int .i64 (FT x y pre.length)]/\M=fun k=>k=g3)
  (fun c pre M W=>False) (fun k=>k=g3) ?_ ?_ ?_ (fun _ _ _ _ _ h _=>h) ?_ ?_ ?_ ?_
 ·rintro k rfl;refine ⟨by omega,?_⟩;rintro (rfl|rfl)
  ·omega
  ·omega
 ·rintro k (rfl|rfl)
  ·exact hB2.lt
  ·exact hL2.lt
 ·rintro pre M W1 W2 ⟨a1,a2,a3,a4⟩ hx;exact ⟨(hx.less (by omega)).below a1 ZC,Nat.le_trans a2 hx.size,a3.ext hx,a4⟩
 ·exact ⟨b02,ZC,hB3,rfl⟩
 ·rintro D L pre ⟨rv,r⟩ M W hD hL' ⟨a1,a2,a3,rfl⟩ ⟨hp1,hp2,hrow⟩ hMlt hML hMD hrec;dsimp only at hp1 hp2 hrow;obtain ⟨A,cap,rfl,_⟩:=hrow.form;have hz:r[0]?=some (FT x y (pre.length+1)):=by
   have hl:=(ZE hp2).1;have h2:pre.length=0∨pre.length=1:=by simp at hl; omega
   rcases h2 with h|h
   ·rw [h] at hp2 ⊢;have:r=iU x y:=by simpa using hp2.symm
    subst this;rfl
   ·rw [h] at hp2 ⊢;have:r=mP x y:=by simpa using hp2.symm
    subst this;rfl
  obtain ⟨hzl,_⟩:=ZE hz;obtain ⟨ad,rfl⟩:=hrow.addr (by omega);refine ag ?_;refine lJ hrec fun W2 hx2 hsz2 hk2 hrec2=> ?_;have hrow2:SL bC (fun k=>k<W.heap.size/\ ¬(k=g3)) W2 (.slice (some ad) r.length cap) r:=hrow.ext (hx2.less ZB);have hB32:=a3.ext (hx2.less ZB);have hLW:L<W.heap.size:=hrec.lt;have hLg:L≠g3:=hML;refine ag ?_;refine aj rfl ((show W2.cell? (ad.add ((0:Int).toNat*1))=some (.int .i64 (FT x y (pre.length+1))) from hrow2.getI hz)) ?_;refine bi rfl is3.q rfl rfl hB32 (by show 0<1; decide) rfl ?_;rintro w3 hB33 hbut3 hs3;refine ag ?_;have a1':Below w.heap.size w w3:=((hx2.less (by omega)).below a1 ZC).grown hbut3 ((hx2.less (by omega)).below a1 ZC).size (fun q hq=>by cases hq; omega);refine jL (hrec2.kept (hbut3.block L (by have:=hrec2.lt; omega) (fun e=>hLg (by cases e; rfl)))) fun W9 hx9 hsz9 hk9 hrec9=> ?_;refine ⟨by omega,fun k h1 h2 h3=>(hk9 k h3).trans ((hbut3.block k (by omega) (fun e=>h2 (by cases e; rfl))).trans (hk2 k h3)),fun _=>⟨fun k=>k=g3,⟨⟨(hx9.less (by omega)).below a1' ZC,by omega,?_,rfl⟩,hML,hMD,hrec9⟩,fun k hk=>⟨.inl hk,?_⟩⟩,fun h=>by cases h⟩
  ·rw [List.length_append];exact hB33.ext (hx9.less ZB)
  ·have hk:k=g3:=hk;omega
 ·rintro D xs M W hD hdone ⟨a1,a2,a3,rfl⟩ hMD hdef;have hdone':xs.map (·.2)= [iU x y,mP x y]:=hdone;have hlen:xs.length=2:=by
   have:=congrArg List.length hdone';simpa using this
  rw [hlen] at a3;have hDn:D<W.heap.size:=(Array.getElem?_eq_some_iff.1 hdef).1;have hBp:Below w.heap.size w (W.putObj D (.deferred none)):=iT a1 (by omega);refine bP (aD ?_);refine ag ?_;refine aj rfl (a3.cell 0) ?_;refine ag ?_;refine Cf results155 rfl hdef ⟨hBp,rfl⟩
 ·rintro D c pre M W hD h;exact h.elim
theorem Lh (hx:x.size<=1000000) (hy:y.size<=1000000) (hL:Blk w gl 9 [.string x,.string y]) :
  Gives prog 156 #[.slice (some ⟨gl,0,none⟩) 2 cl,.int .i64 0] w fun u w'=>Below w.heap.size w w'/\ ∃A c,u= .slice A 1 c/\OwnS w' 3 1 u 1 [.int .i64 (cB y)]/\ ∀q,u.ownBlock=some q->w.heap.size<=q:=by
 refine LX (f:=156) ?_;refine ag ?_;refine aG rfl rfl rfl rfl ?_;rintro g3 w1 f1;refine ag ?_;refine aj rfl (f1.blk.cell 0) ?_;refine ag ?_;refine aj rfl (f1.blk.cell 0) ?_;refine ag ?_;refine aI [0,1,3,4,19] rfl ?_;refine au rfl (fun hz=> ?_) (fun hz=> ?_)
 ·exact absurd hz (by decide)
 refine ag ?_;refine dC rfl rfl Oj ?_;rintro g5 w2 f2;refine ag ?_;refine aA rfl (FN rfl rfl) ?_;rintro yv w3 ⟨b3,g,rfl,hB3,hgg⟩;have b03:=(f1.below.step f2.below).step b3;have hL3:=hL.next b03;have hg3:=f1.at_;have hg3s:=f1.size;have hg5:=f2.at_;have hg5s:=f2.size;have hgl:=hL.lt;have hI3:=(f1.blk.next f2.below).next b3;have hP3:=f2.blk.next b3;have hit:=u7 hx hy hB3 hL3;have hs3:=b3.size;refine ag ?_;refine lL rfl ie244.q hit rfl (fun _=>rfl)
  (fun pre M W=>Below w.heap.size w W/\w3.heap.size<=W.heap.size/\Blk W g3 3 [.int .i64 0]/\ ∃vf,Blk W g5 32 [vf]/\((pre.length=0/\vf= .slice none 0 0)∨(pre.length≠0/\OwnS W 3 1 vf 1 [.int .i64 (cB y)]))/\(∀q,vf.ownBlock=some q->w3.heap.size<=q)/\M=fun k=>k=g5∨k=g3∨vf.ownBlock=some k)
  (fun c pre M W=>False) (fun k=>k=g5∨k=g3) ?_ ?_ ?_ (fun _ _ _ _ _ h _=>h) ?_ ?_ ?_ ?_
 ·rintro k hk;have hk2:k<w3.heap.size/\k<w2.heap.size:=by rcases hk with rfl|rfl<;>omega
  refine ⟨hk2.1,?_⟩;rintro (rfl|rfl)<;>omega
 ·rintro k (rfl|rfl)
  ·exact hB3.lt
  ·exact hL3.lt
 ·rintro pre M W1 W2 ⟨a1,a2,a3,vf,a4,a5,a6,a7⟩ hx;exact ⟨(hx.less (by omega)).below a1 ZC,Nat.le_trans a2 hx.size,a3.ext hx,vf,a4.ext hx,a5.imp id (fun h=>⟨h.1,h.2.ext hx⟩),a6,a7⟩
 ·exact ⟨b03,ZC,hI3,_,hP3,.inl ⟨rfl,rfl⟩,fun q hq=>by simp [Value.ownBlock] at hq,by funext k; simp [Value.ownBlock]⟩
 ·rintro D L pre ⟨rv,r⟩ M W hD hL' ⟨a1,a2,a3,vf,a4,a5,a6,rfl⟩ ⟨hp1,hp2,hrow⟩ hMlt hML hMD hrec;dsimp only at hp1 hp2 hrow;obtain ⟨A,cap,rfl,_⟩:=hrow.form;have hrm:=hrow.len.2.2;have hcase:(pre.length=0/\r=iU x y)∨(pre.length=1/\r=mP x y):=by
   have hl:=(ZE hp2).1;have h2:pre.length=0∨pre.length=1:=by simp at hl; omega
   rcases h2 with h|h
   ·rw [h] at hp2;exact .inl ⟨h,by simpa using hp2.symm⟩
   ·rw [h] at hp2;exact .inr ⟨h,by simpa using hp2.symm⟩
  have hLg5:L≠g5:=fun e=>hML (.inl e);have hLg3:L≠g3:=fun e=>hML (.inr (.inl e));have hLv:vf.ownBlock≠some L:=fun e=>hML (.inr (.inr e));have hDv:vf.ownBlock≠some D:=fun e=>hMD (.inr (.inr e));have hvlt: ∀q,vf.ownBlock=some q->q<W.heap.size:=fun q hq=>hMlt q (.inr (.inr hq));refine ag ?_;refine lJ hrec fun W2 hx2 hsz2 hk2 hrec2=> ?_;have hrow2:=hrow.ext (hx2.less ZB);have hI2:=a3.ext (hx2.less ZB);have hP2:=a4.ext (hx2.less ZB);have hLW:L<W.heap.size:=hrec.lt;have hLW2:L<W2.heap.size:=hrec2.lt;have a1':Below w.heap.size w W2:=(hx2.less (by omega)).below a1 ZC;refine ag ?_;refine ai rfl (fun hlong=> ?_) (fun hshort=> ?_)
  ·have hp0:pre.length=0/\r=iU x y:=by
    rcases hcase with h|⟨_,h⟩
    ·exact h
    ·rw [h] at hlong;exact absurd hlong (by simp [mP])
   obtain ⟨hp0,rfl⟩:=hp0;have hvn:vf= .slice none 0 0:=by
    rcases a5 with h|h
    ·exact h.2
    ·exact absurd hp0 h.1
   subst hvn;refine cO ?_;refine dE mixed fun W5 hW5=> ?_;refine dL .weak 5 (by kernel_rfl) (by kernel_rfl) rfl rfl hW5 ?_;refine aB rfl (hP2.cell 0) ?_;refine aZ ?_;refine aB rfl (hI2.cell 0) ?_;refine fE (.ex (.int .i64 (cB y))) trivial rfl (fun _ w' hb'=>zZ (a:=cB x) (b:=cB y) (hrow2.below hb')) ?_;refine cK 3 _ rfl rfl rfl gQ (ax rfl ct aP) rfl rfl rfl rfl rfl ?_;refine dD (ii [0,1,3,4,5,6,22,26] [(0,_,_),(1,_,_),(3,_,_),(4,_,_),(5,_,_),(6,_,_),(22,_,_),(26,_,_)] rfl [30] rfl fun vs w5 b5 hs5=>ek ?_);obtain ⟨v30,rfl,h30⟩:=Sats.one hs5;obtain ⟨g30,rfl,hB30⟩:=h30;refine bV (by kernel_rfl) (by kernel_rfl) rfl ?_;refine aK [.int .i64 (cB y)] rfl rfl lF rfl (OwnS.nil _ _ _) rfl rfl (fun j u hj=>⟨_,rfl,hB30.fld hj⟩) (fun u hu=>by simp at hu; subst hu; rfl) (by decide) (by decide) ?_;rintro v6 w6 hO6 hg6 hn6;refine bG (aS [0,1,3,4,5,6,22,31] [(0,_,_),(1,_,_),(3,_,_),(4,_,_),(5,_,_),(6,_,_),(22,_,_),(31,_,_)] rfl (dJ ?_));refine bV (by kernel_rfl) (by kernel_rfl) rfl ?_;have s5:=b5.size;have s6:=hg6.size;have hg6':Below w5.heap.size w5 w6:=(ZA).grown hg6 ZC (fun q hq=>by simp [Value.ownBlock] at hq);have b6:=b5.step hg6';have hown: ∀q,v6.ownBlock=some q->q=w5.heap.size:=fun q hq=>by
    rcases hn6 with h|h
    ·rw [h] at hq; simp [Value.ownBlock] at hq
    ·rw [h] at hq; cases hq; rfl
   have h1c:v6.oneCell'=true:=by
    obtain ⟨A6,c6,e6,_⟩:=hO6.form;rw [e6];rfl
   refine bi rfl is32.q rfl rfl (hP2.next b6) (by show 0<1; decide) h1c ?_;rintro w7 hP7 hbut7 hs7;refine bG (aS [0,1,3,4,5,6,22] [(0,_,_),(1,_,_),(3,_,_),(4,_,_),(5,_,_),(6,_,_),(22,_,_)] rfl (dJ ?_));refine ed rfl (aS [0,1,3,4,5,6,22] [(0,_,_),(1,_,_),(3,_,_),(4,_,_),(5,_,_),(6,_,_),(22,_,_)] rfl (aD ?_));refine bE ?_;have hI7:=hbut7.blk (hI2.next b6) (by omega);refine aj rfl (hI7.cell 0) ?_;refine ag ?_;refine bi rfl is3.q rfl rfl hI7 (by show 0<1; decide) rfl ?_;rintro w8 hI8 hbut8 hs8;refine ag ?_;have hP8:=hbut8.blk hP7 (by omega);have hO8:OwnS w8 3 1 v6 1 [.int .i64 (cB y)]:=hO6.kept fun q hq=>by
    have hq1:=hown q hq;have hq2:=hO6.lt hq;rw [hbut8.block q (by omega) (fun e=>by cases e; omega),hbut7.block q hq2 (fun e=>by cases e; omega)]
   have keep: ∀k,k<W2.heap.size->k≠g5->k≠g3->w8.heap[k]?=W2.heap[k]?:=fun k h1 h2 h3=>by
    rw [hbut8.block k (by omega) (fun e=>h3 (by cases e; rfl)),hbut7.block k (by omega) (fun e=>h2 (by cases e; rfl)),b6.block k h1]
   have a8:Below w.heap.size w w8:=by
    have q6:=a1'.step b6;have q7:=q6.grown hbut7 q6.size (fun q hq=>by cases hq; omega);exact q7.grown hbut8 q7.size (fun q hq=>by cases hq; omega)
   refine jL (hrec2.kept (keep L hLW2 hLg5 hLg3)) fun W9 hx9 hsz9 hk9 hrec9=> ?_;refine ⟨by omega,fun k h1 h2 h3=>(hk9 k h3).trans ((keep k (by omega) (fun e=>h2 (.inl e)) (fun e=>h2 (.inr (.inl e)))).trans (hk2 k h3)),fun _=>⟨fun k=>k=g5∨k=g3∨v6.ownBlock=some k,⟨⟨(hx9.less (by omega)).below a8 ZC,by omega,hI8.ext (hx9.less ZB),v6,hP8.ext (hx9.less ZB),.inr ⟨by simp,hO8.ext (hx9.less ZB)⟩,fun q hq=>by have:=hown q hq; omega,rfl⟩,?_,?_,hrec9⟩,fun k hk=> ?_⟩,fun h=>by cases h⟩
   ·rintro (h|h|h)
    ·exact hLg5 h
    ·exact hLg3 h
    ·have:=hown L h; omega
   ·rintro (h|h|h)
    ·exact hMD (.inl h)
    ·exact hMD (.inr (.inl h))
    ·have:=hown D h; omega
   ·rcases hk with rfl|rfl|h
    ·exact ⟨.inl (.inl rfl),by omega⟩
    ·exact ⟨.inl (.inr (.inl rfl)),by omega⟩
    ·have:=hown k h;have:=hO8.lt h;exact ⟨.inr (by omega),by omega⟩
  ·have hp0:pre.length≠0:=by
    rcases hcase with ⟨_,h⟩|⟨h,_⟩
    ·rw [h] at hshort;exact absurd hshort (by simp [iU])
    ·omega
   refine ag ?_;refine jL hrec2 fun W9 hx9 hsz9 hk9 hrec9=> ?_;refine ⟨by omega,fun k h1 h2 h3=>(hk9 k h3).trans (hk2 k h3),fun _=>⟨fun k=>k=g5∨k=g3∨vf.ownBlock=some k,⟨⟨(hx9.less (by omega)).below a1' ZC,by omega,hI2.ext (hx9.less ZB),vf,hP2.ext (hx9.less ZB),.inr ⟨by simp,?_⟩,a6,rfl⟩,hML,hMD,hrec9⟩,fun k hk=>⟨.inl hk,by have:=hMlt k hk; omega⟩⟩,fun h=>by cases h⟩;rcases a5 with h|h
   ·exact absurd h.1 hp0
   ·exact (h.2.ext (hx2.less ZB)).ext (hx9.less ZB)
 ·rintro D xs M W hD hdone ⟨a1,a2,a3,vf,a4,a5,a6,rfl⟩ hMD hdef;have hdone':xs.map (·.2)= [iU x y,mP x y]:=hdone;have hlen:xs.length=2:=by
   have:=congrArg List.length hdone';simpa using this
  have hO:OwnS W 3 1 vf 1 [.int .i64 (cB y)]:=by
   rcases a5 with h|h
   ·omega
   ·exact h.2
  have hDn:D<W.heap.size:=(Array.getElem?_eq_some_iff.1 hdef).1;have hBp:Below w.heap.size w (W.putObj D (.deferred none)):=iT a1 (by omega);have hput:ExtF 0 W (W.putObj D (.deferred none)):=(ExtF.putObj hdef rfl (Nat.le_refl D)).less ZB;obtain ⟨VA,vc,rfl,_⟩:=hO.form;refine bP (aD ?_);refine ag ?_;refine aj rfl (a4.cell 0) ?_;refine ag ?_;refine Cf results156 rfl hdef ⟨hBp,VA,vc,rfl,hO.ext hput,fun q hq=>by have:=a6 q hq; have:=b03.size; omega⟩
 ·rintro D c pre M W hD h;exact h.elim
def MI (ks:List Int) (d:Dc):Dc:= {d with give:=dU (fB ks d),take:=dU (fG ks {d with give:=dU (fB ks d)})}
theorem Fg (ks:List Int) (d:Dc):kX ks (MI ks d):=⟨rfl,rfl⟩
theorem Fh {d:Dc} (h:DocOK ks d):DocOK ks (MI ks d):=⟨h.keys,h.lab,h.f0,h.f1,h.t0,h.t1,h.m0,h.m1,h.c0,h.c1,h.r,jm _,jm _⟩
theorem H7 {d:Dc} (h:DocOK ks d) (hk:ks.length<=6):DcOK d:=by
 have h1:=h.f1;have h2:=h.t1;have h3:=h.r;have h4:=h.g;have h5:=h.k;have h6:=h.f0;have h7:=h.t0;have h8:=h.m0;have h9:=h.m1;have h10:=h.c0;have h11:=h.c1;exact ⟨⟨by omega,by omega⟩,⟨by omega,by omega⟩,⟨by omega,by omega⟩,⟨by omega,by omega⟩,⟨by omega,by omega⟩,⟨by omega,by omega⟩,⟨by omega,by omega⟩⟩
theorem Hd {fr to:Int} {s:ByteArray} (hk:SL bC F w kv ks) (hx:eT x) (hy:eT y) (hL:Blk w gl 9 [.string x,.string y]) (hls:SL strT (fun k=>k<w.heap.size) w (.slice (some ⟨gl,0,none⟩) 2 2) [x,y]) (hd:DocOK ks ⟨s,fr,to,t,2,dU [1,cB x,cB y],0,0⟩) :
  Gives prog 82 #[kv,.int .i64 fr,.int .i64 to,.string s,.int .i64 t,.slice (some ⟨gl,0,none⟩) 2 2] w (ZJ w (.tuple #[.agg (Ej (MI ks ⟨s,fr,to,t,2,dU [1,cB x,cB y],0,0⟩)).toArray,.int .i64 0])):=by
 obtain ⟨D0,hD0⟩: ∃D0:Dc,D0=⟨s,fr,to,t,2,dU [1,cB x,cB y],0,0⟩:=⟨_,rfl⟩;have hV0:Ej D0= [.string s,.int .i64 fr,.int .i64 to,.int .i64 t,.int .i64 2,.int .i64 (dU [1,cB x,cB y]),.int .i64 0,.int .i64 0]:=by rw [hD0]; rfl
 rw [<-hD0] at hd ⊢;have hk6:ks.length<=6:=hd.keys.2.1;have hdc:=H7 hd hk6;obtain ⟨KA,kc,rfl,_⟩:=hk.form;have hx2:=hx.2.1;have hy2:=hy.2.1;refine gv (f:=82) ?_;refine ag ?_;refine dC rfl rfl KT ?_;rintro g12 w1 f1;refine ag ?_;refine aA rfl (vZ (hls.below f1.below)) ?_;rintro u w2 ⟨b2,rfl⟩;have hcont:xA [x,y]:=⟨by simp,by simp,fun z hz=>by
  simp only [List.mem_cons,List.not_mem_nil,or_false] at hz;rcases hz with rfl|rfl<;>assumption⟩
 rw [ay hcont];have b02:=f1.below.step b2;refine ag ?_;refine au rfl (fun hz=> ?_) (fun hz=> ?_)
 ·exact absurd hz (by decide)
 refine ag ?_;refine aA rfl (K9 (by omega) (by omega) (hL.next b02)) ?_;rintro u w3 ⟨b3,rfl⟩;have b03:=b02.step b3;refine aH [0,1,2,3,4,5] _ (Ej D0) rfl rfl rfl (aa rfl ct (aa rfl ct (aa rfl ct (aa rfl ct (aa rfl ct (aa rfl ct ah)))))) (by rw [hV0]; kernel_rfl) ?_;refine aM rfl KT rfl is63.q rfl rfl ?_;rintro g14 w4 f4;refine ag ?_;refine aF rfl (fun _ _ hv=>f4.blk.fld hv) ?_;refine ag ?_;refine aH [0,1] _ (uO D0 (.slice KA ks.length kc)) rfl rfl rfl (aa rfl ct (aa rfl ct ah)) (by kernel_rfl) ?_;refine aM rfl M4 rfl is115.q rfl rfl ?_;rintro g15 w5 f5;refine ag ?_;have hB5:=f5.blk;refine aF rfl (fun _ _ hv=>hB5.fld hv) ?_;refine iQ rfl rfl (aa rfl ct ah) ah ?_;refine aH [0,1] _ [.func (.func 68) #[.agg (uO D0 (.slice KA ks.length kc)).toArray] #[],.int .i64 1] rfl rfl rfl (aa rfl ct (aa rfl ct ah)) (by kernel_rfl) ?_;refine ak 120 _ rfl rfl rfl KE (aa rfl ct ah) rfl rfl rfl rfl rfl ?_;rintro g6 w6 f6;have b46:=f5.below.step f6.below;have b06:=b03.step (f4.below.step b46);have hk6':=hk.below b06;have hS:=su (m:=2) (by decide) [[.func (.func 68) #[.agg (uO D0 (.slice KA ks.length kc)).toArray] #[],.int .i64 1]] f6.blk rfl (by simp) (by simp)
 obtain ⟨rs,hrs⟩: ∃rs:List (Value×Bool×Int),rs= [(.func (.func 68) #[.agg (uO D0 (.slice KA ks.length kc)).toArray] #[],!dec (DocOK ks D0),1)]:=⟨_,rfl⟩;have hcc: ∀pre r suf W,rs=pre++r::suf->(∀q∈pre,q.2.1=false)->Below w6.heap.size w6 W->NJ prog r.1 [] W fun u W'=>Below W.heap.size W W'/\u= .bool r.2.1:=by
  intro pre r suf W hcut hpre hbW;rw [hrs] at hcut;rcases pre with _|⟨a1,pre⟩<;>simp at hcut;obtain ⟨rfl,_⟩:=hcut;exact ⟨_,[_],[],rfl,ie68.q,rD (hk6'.below hbW) hdc⟩
 refine aA rfl (pV (rs:=rs) (by rw [hrs]; exact hS) (by rw [hrs]; simp [Value.oneCell']) hcc) ?_;rintro u w7 ⟨b7,rfl⟩;have hee:pX (rs.map (·.2))=0:=by
  rw [hrs,ay hd];rfl
 rw [hee];have b07:=b06.step b7;refine ag ?_;refine aI [0,1,2,3,4,5,12,13,14,15,16,39] rfl ?_;refine ai rfl (fun hz=> ?_) (fun hz=> ?_)
 ·exact absurd hz (by decide)
 have hB7:=hB5.next (f6.below.step b7);refine ag ?_;refine aF rfl (fun _ _ hv=>hB7.fld hv) ?_;refine aA rfl (CF (hk.below b07) hdc (by have:=hd.lab.2.1; omega) hd.f0 hd.f1) ?_;rintro u w8 ⟨b8,h8⟩;obtain ⟨FA,fc,rfl,_⟩:=h8.form;refine aA rfl (xe h8) ?_;rintro u w9 ⟨rfl,rfl⟩;refine ag ?_;have hB8:=hB7.next b8;refine bi (j:=6) rfl is3.q rfl rfl hB8 (by show 6<9; decide) rfl ?_;rintro w10 hB10 hbut10 hs10;refine ag ?_;have q5:=f5.at_;have s5:w.heap.size<=w4.heap.size:=(b03.step f4.below).size;have b08:=b07.step b8;have b10:Below w.heap.size w w10:=b08.grown hbut10 b08.size (fun q hq=>by cases hq; omega);have hD1:(uO D0 (.slice KA ks.length kc)).set 6 (.int .i64 (dU (fB ks D0)))=uO {D0 with give:=dU (fB ks D0)} (.slice KA ks.length kc):=rfl;rw [hD1] at hB10;refine aF rfl (fun _ _ hv=>hB10.fld hv) ?_;refine aA rfl (xL (d:= {D0 with give:=dU (fB ks D0)}) (hk.below b10) ⟨hdc.f,hdc.t,hdc.m,hdc.c,hdc.r,fF _,hdc.k⟩ hd.t0 hd.t1) ?_;rintro u w11 ⟨b11,h11⟩;obtain ⟨GA,gc,rfl,_⟩:=h11.form;refine aA rfl (xe h11) ?_;rintro u w12 ⟨rfl,rfl⟩;refine ag ?_;have hB11:=hB10.next b11;refine bi (j:=7) rfl is3.q rfl rfl hB11 (by show 7<9; decide) rfl ?_;rintro w13 hB13 hbut13 hs13;refine ag ?_
 have b011:=b10.step b11;have b13:Below w.heap.size w w13:=b011.grown hbut13 b011.size (fun q hq=>by cases hq; omega);have hD2:(uO {D0 with give:=dU (fB ks D0)} (.slice KA ks.length kc)).set 7 (.int .i64 (dU (fG ks {D0 with give:=dU (fB ks D0)})))=uO (MI ks D0) (.slice KA ks.length kc):=rfl;rw [hD2] at hB13;refine aF rfl (fun j u hj=>lN hB13 0 (Ej (MI ks D0)) _ rfl j u hj) ?_;have q12:=f1.at_;have e12:=f1.size;have hR1:=f1.blk.next (b2.step (b3.step (f4.below.step (b46.step (b7.step b8)))));have s4:=(b2.step (b3.step f4.below)).size;have hR10:=hbut10.blk hR1 (by omega);have hR13:=hbut13.blk (hR10.next b11) (by omega);refine aQ rfl rfl rfl hR13 is63.q rfl rfl rfl ?_;rintro wr hBr hbutr hszr;refine ag ?_;refine ik results82 underlying63 (by exact is63.q) rfl rfl hBr ⟨b13.grown hbutr b13.size (fun q hq=>by cases hq; omega),rfl⟩
theorem Ju (hx:eT x) (hy:eT y) (hL:Blk w gl 9 [.string x,.string y]) (hls:SL strT (fun k=>k<w.heap.size) w (.slice (some ⟨gl,0,none⟩) 2 2) [x,y]) :
  Gives prog 83 #[.slice (some ⟨gl,0,none⟩) 2 2,.int .i64 0] w fun u w'=>Below w.heap.size w w'/\ ∃A c,u= .tuple #[.agg #[.int .i64 0,.slice A 1 c],.int .i64 0]/\SL bC (fun k=>w.heap.size<=k/\k<w'.heap.size) w' (.slice A 1 c) [cB y]:=by
 have hx2:=hx.2.1;have hy2:=hy.2.1;refine gv (f:=83) ?_;refine ag ?_;refine dC rfl rfl MS ?_;rintro g4 w1 f1;refine ag ?_;refine aA rfl (vZ (hls.below f1.below)) ?_;rintro u w2 ⟨b2,rfl⟩;have hcont:xA [x,y]:=⟨by simp,by simp,fun z hz=>by
  simp only [List.mem_cons,List.not_mem_nil,or_false] at hz;rcases hz with rfl|rfl<;>assumption⟩
 rw [ay hcont];have b02:=f1.below.step b2;refine ag ?_;refine aO (cap:= []) rfl rfl ie137.q rfl ct (aa rfl id (aa rfl id ah)) (fun _=>nT) ?_;rintro w3 b3;refine ag ?_;refine aI [0,1,4,5,15] rfl ?_;have b03:=b02.step b3;refine au rfl (fun hz=> ?_) (fun hz=> ?_)
 ·exact absurd hz (by decide)
 refine ag ?_;refine aA rfl (Lh (by omega) (by omega) (hL.next b03)) ?_;rintro u w4 ⟨b4,A,c,rfl,hO4,hf4⟩;have b04:=b03.step b4;refine aH [0,1] _ [.int .i64 0,.slice A 1 c] rfl rfl rfl (aa rfl ct (aa rfl ct ah)) (by kernel_rfl) ?_;have q4:=f1.at_;have e4:=f1.size;have hR4:=f1.blk.next (b2.step (b3.step b4));refine aQ rfl rfl rfl hR4 is65.q rfl rfl rfl ?_;rintro wr hBr hbutr hszr;refine ag ?_;have s2:=b2.size;have s3:=b3.size;have hOr:OwnS wr 3 1 (.slice A 1 c) 1 [.int .i64 (cB y)]:=hO4.kept fun q hq=>hbutr.block q (hO4.lt hq) (fun e=>by have:=hf4 q hq; cases e; omega);have s0:=b03.size;have hI:SL bC (fun k=>w.heap.size<=k/\k<wr.heap.size) wr (.slice A 1 c) [cB y]:=dz (l:= [cB y]) hOr (fun z hz=>by rw [List.mem_singleton] at hz; subst hz; exact fF _) (fun q hq=>⟨by have:=hf4 q hq; omega,hOr.lt hq⟩) (by simp);refine ik results83 underlying65 (by exact is65.q) rfl rfl hBr ⟨b04.grown hbutr b04.size (fun q hq=>by cases hq; omega),A,c,rfl,hI⟩
end Go.Proofs.YtobaafdejnimkaaGreatDoor
namespace Go.Proofs.YtobaafdejnimkaaGreatDoor
open Tryz
open Go.PF Go.RowKit Go.Ord
theorem vJ {x:Int} (h0: -1000000<=x) (h1:x<=1000000):eB x:=⟨by show (-9223372036854775808:Int)<=x; omega,by show x<=9223372036854775807; omega⟩
theorem kK {w:World} {g:Nat} {t:TypeId} {n:Nat} (l:List Int) (h:Blk w g t (l.map (Value.int .i64))) (hn:n=l.length) (hI: ∀x∈l,-1000000<=x/\x<=1000000) (hs:l.length<=1000000):SI w (.slice (some ⟨g,0,none⟩) n n) l:=by
 subst hn;exact dz (bu h (by simp) (by omega)) (fun x hx=>vJ (hI x hx).1 (hI x hx).2) (fun q hq=>by simp [Value.ownBlock] at hq; subst hq; exact h.lt) (by omega)
theorem yJ {w:World} {g:Nat} {t:TypeId} {n:Nat} (ps:List (Value×List Int)) (h:Blk w g t (ps.map (·.1))) (hn:n=ps.length) (hp: ∀p∈ps,SI w p.1 p.2) (hs:ps.length<=1000000):SD w (.slice (some ⟨g,0,none⟩) n n) (ps.map (·.2)):=by
 subst hn;have e1:(ps.map fun p=>(([p.1],p.2):List Value×List Int)).map (·.2)=ps.map (·.2):=by simp
 have e2:(ps.map fun p=>(([p.1],p.2):List Value×List Int)).flatMap (·.1)=ps.map (·.1):=by
  clear h hp hs e1
  induction ps with
  | nil=>rfl
  | cons p ps ih=>simp [ih]
 have:=dR (T:=sliceT bC) (F:=fun k=>k<w.heap.size) (w:=w) (e:=t) (v:= .slice (some ⟨g,0,none⟩) ps.length ps.length) (n:=ps.length) (ps.map fun p=>([p.1],p.2)) (fun p hp'=>by
  obtain ⟨q,hq,rfl⟩:=List.mem_map.1 hp';exact ⟨q.1,rfl,hp q hq⟩) (by show 0<1; decide) (by rw [e2]; exact bu h (by show (ps.map (·.1)).length=ps.length*1; simp) (by omega)) (by simp) (fun q hq=>by simp [Value.ownBlock] at hq; subst hq; exact h.lt) (by simp; omega)
 rw [e1] at this;exact this
end Go.Proofs.YtobaafdejnimkaaGreatDoor
namespace Go.Proofs.YtobaafdejnimkaaGreatDoor
open Tryz
open Go.PF Go.RowKit Go.Ord
attribute [local irreducible] TW CW KW DW
variable {w:World} {F:Nat->Prop} {ks:List Int} {kv psv lv dv wv:Value} {t op:Int} {N:Net} {ps:List Pp} {v:NV} {l:List Ev} {d:bA} {ws:List (List Int)} {s lab:ByteArray} {c:Cl} {g:Nat}
theorem wT {α:Type} {T:Ty α} {t:TypeId} {n:Nat} (h0:0<T.n) (ps:List (List Value×α)) (h:Blk w g t (ps.flatMap (·.1))) (hn:n=ps.length) (hp: ∀p∈ps,T.rep (fun k=>k<w.heap.size) w p.1 p.2) (hs:ps.length<=1000000):SL T (fun k=>k<w.heap.size) w (.slice (some ⟨g,0,none⟩) n n) (ps.map (·.2)):=by
 subst hn;exact dR (T:=T) (F:=fun k=>k<w.heap.size) (w:=w) (e:=t) (v:= .slice (some ⟨g,0,none⟩) ps.length ps.length) (n:=ps.length) ps hp h0 (bu h (pU (fun p:List Value×α=>p.1) T.n ps (fun p hp'=>T.len _ _ _ _ (hp p hp'))) (by omega)) rfl (fun q hq=>by simp [Value.ownBlock] at hq; subst hq; exact h.lt) (by omega)
theorem s1 (n:UInt8):(gq n).size<=9223372036854775807:=by show 1<=_; decide
theorem vP:Gives prog 29 #[] w fun u w'=>Below w.heap.size w w'/\ ∃v:NV,u= .agg v.cells.toArray/\dI w' v N0:=by
 refine gv (f:=29) ?_;refine ag ?_;refine dC rfl rfl KU ?_;rintro g0 w0 f0;refine ag ?_;refine ak 4 _ rfl rfl rfl Nz (aa rfl ct (aa rfl ct (aa rfl ct (aa rfl ct (aa rfl ct (aa rfl ct (aa rfl ct ah))))))) rfl rfl rfl rfl rfl ?_;rintro gw wA fA;refine aH [1] _ [.int .i64 0,.slice (some ⟨gw,0,none⟩) 7 7,.slice none 0 0] rfl rfl rfl (aa rfl ct ah) (by kernel_rfl) ?_;refine aM rfl MX rfl is136.q rfl rfl ?_;rintro g1 w1 f1;refine ag ?_;refine aH [0,3,4,5] _ [.string (gq 97),.int .i64 0,.int .i64 0,.int .i64 8,.int .i64 2,.int .i64 10,.slice none 0 0] rfl rfl rfl (aa rfl ct (aa rfl ct (aa rfl ct (aa rfl ct ah)))) (by kernel_rfl) ?_;refine aM rfl Ko rfl is110.q rfl rfl ?_;rintro g2 w2 f2;refine ag ?_;refine aF rfl (fun _ _ hv=>f2.blk.fld hv) ?_;refine aM rfl Ko rfl is110.q rfl rfl ?_;rintro g3 w3 f3;refine ag ?_;refine bi (j:=0) rfl is9.q rfl rfl f3.blk (by show 0<7; decide) rfl ?_;rintro w4' hB4' hbut4' hsz4';refine ag ?_;refine bi (j:=1) rfl is3.q rfl rfl hB4' (by show 1<7; decide) rfl ?_;rintro w4 hB4 hbut4'' hsz4'';refine ag ?_;have hbut4:But g3 w3 w4:=hbut4'.trans hbut4'';have hsz4:w4.heap.size=w3.heap.size:=by omega
 have q0:=f0.at_;have q0':=f0.size;have q3:=f3.at_;have q3':=f3.size;have b03:Below w.heap.size w w3:=f0.below.step (fA.below.step (f1.below.step (f2.below.step f3.below)));have b13:=f1.below.step (f2.below.step f3.below);have k4: ∀ {g:Nat} {t:TypeId} {cs:List Value},Blk w3 g t cs->g≠g3->Blk w4 g t cs:=fun h hne=>hbut4.blk h hne;have sA:=fA.below.size;have s1':=f1.below.size;have s2':=f2.below.size;have hBw:Blk w4 gw 4 [.bool true,.bool true,.bool true,.bool true,.bool true,.bool false,.bool false]:=k4 (fA.blk.next b13) (by have:=fA.blk.lt; omega);have hB1:=k4 (f1.blk.next (f2.below.step f3.below)) (by have:=f1.blk.lt; omega);have hB2:=k4 (f2.blk.next f3.below) (by have:=f2.blk.lt; omega);have hB0:=k4 (f0.blk.next (fA.below.step b13)) (by have:=f0.blk.lt; omega);have hb4:Below w.heap.size w w4:=b03.grown hbut4 b03.size (fun q hq=>by cases hq; omega);refine aF rfl (fun _ _ hv=>hB1.fld hv) ?_;refine ak 136 _ rfl rfl rfl OT (aa rfl ct ah) rfl rfl rfl rfl rfl ?_;rintro g5 w5 f5;refine ak 9 _ rfl rfl rfl uk (aa rfl ct ah) rfl rfl rfl rfl rfl ?_;rintro g6 w6 f6;refine aH [0] _ [.string (gq 112)] rfl rfl rfl (aa rfl ct ah) (by kernel_rfl) ?_
 refine aH [0] _ [.string (gq 113)] rfl rfl rfl (aa rfl ct ah) (by kernel_rfl) ?_;refine ak 138 _ rfl rfl rfl OS (aa rfl ct (aa rfl ct ah)) rfl rfl rfl rfl rfl ?_;rintro g7 w7 f7;have b47:=f5.below.step (f6.below.step f7.below);refine aF rfl (fun _ _ hv=>(hB2.next b47).fld hv) ?_;refine aF rfl (fun _ _ hv=>(hB4.next b47).fld hv) ?_;refine ak 110 _ rfl rfl rfl OR (aa rfl ct (aa rfl ct ah)) rfl rfl rfl rfl rfl ?_;rintro g8 w8 f8;refine aH [0,2,4,5] _ (Cv liX) rfl rfl rfl (aa rfl ct (aa rfl ct (aa rfl ct (aa rfl ct ah)))) (by kernel_rfl) ?_;refine aH [0,1,4,5] _ (Cv liY) rfl rfl rfl (aa rfl ct (aa rfl ct (aa rfl ct (aa rfl ct ah)))) (by kernel_rfl) ?_;refine ak 113 _ rfl rfl rfl OQ (aa rfl ct (aa rfl ct ah)) rfl rfl rfl rfl rfl ?_;rintro g9 w9 f9;refine aH [0,1,2,3,4] _ [.slice (some ⟨g5,0,none⟩) 1 1,.slice (some ⟨g6,0,none⟩) 1 1,.slice (some ⟨g7,0,none⟩) 2 2,.slice (some ⟨g8,0,none⟩) 2 2,.slice (some ⟨g9,0,none⟩) 2 2,.slice none 0 0] rfl rfl rfl (aa rfl ct (aa rfl ct (aa rfl ct (aa rfl ct (aa rfl ct ah))))) (by kernel_rfl) ?_;have b49:=b47.step (f8.below.step f9.below);have b59:=f6.below.step (f7.below.step (f8.below.step f9.below))
 refine aQ rfl rfl rfl (hB0.next b49) is29.q rfl rfl rfl ?_;rintro w10 hB10 hbut10 hsz10;refine ag ?_;have hlt4:=hB0.lt;have s49:=b49.size;have e5:=f5.blk.lt;have n: ∀ {g:Nat} {t:TypeId} {cs:List Value},Blk w9 g t cs->w4.heap.size<=g->Blk w10 g t cs:=fun h hne=>Blk.keptO h hbut10 (fun e=>by cases e; omega);have a5:=f5.at_;have a6:=f6.at_;have a7:=f7.at_;have a8:=f8.at_;have a9:=f9.at_;have z5:=f5.below.size;have z6:=f6.below.size;have z7:=f7.below.size;have z8:=f8.below.size;have c5:=n (f5.blk.next b59) (by omega);have c6:=n (f6.blk.next (f7.below.step (f8.below.step f9.below))) (by omega);have c7:=n (f7.blk.next (f8.below.step f9.below)) (by omega);have c8:=n (f8.blk.next f9.below) (by omega);have c9:=n f9.blk (by omega);have hw10:Blk w10 gw 4 [.bool true,.bool true,.bool true,.bool true,.bool true,.bool false,.bool false]:=Blk.keptO (hBw.next b49) hbut10 (fun e=>by cases e; have:=fA.at_; omega);have hI: ∀x:Int,-1000000<=x->x<=1000000->eB x:=fun x=>vJ
 refine ow results29 underlying29 (by exact is29.q) rfl (hB10) (⟨(hb4.step b49).grown hbut10 (hb4.step b49).size (fun q hq=>by cases hq; omega),⟨.slice (some ⟨g5,0,none⟩) 1 1,.slice (some ⟨g6,0,none⟩) 1 1,.slice (some ⟨g7,0,none⟩) 2 2,.slice (some ⟨g8,0,none⟩) 2 2,.slice (some ⟨g9,0,none⟩) 2 2,.slice none 0 0⟩,rfl,?_⟩);have hwk:SL boolT (fun k=>k<w10.heap.size) w10 (.slice (some ⟨gw,0,none⟩) 7 7) [true,true,true,true,true,false,false]:=wT (T:=boolT) (by decide) [([.bool true],true),([.bool true],true),([.bool true],true),([.bool true],true),([.bool true],true),([.bool false],false),([.bool false],false)] hw10 rfl (fun p hp=>by
  simp only [List.mem_cons,List.not_mem_nil,or_false] at hp;rcases hp with rfl|rfl|rfl|rfl|rfl|rfl|rfl<;>rfl) (by simp)
 refine ⟨?_,?_,?_,?_,?_,SL.nil _ _ _⟩
 ·exact wT (T:=calT) (by decide) [([.int .i64 0,.slice (some ⟨gw,0,none⟩) 7 7,.slice none 0 0],⟨0,[true,true,true,true,true,false,false],[]⟩)] c5 rfl (fun p hp=>by
   rw [List.mem_singleton] at hp;subst hp;exact ⟨_,_,rfl,hI 0 (by omega) (by omega),hwk,SL.nil _ _ _⟩) (by simp)
 ·exact wT (T:=strT) (by decide) [([.string (gq 99)],gq 99)] c6 rfl (fun p hp=>by
   rw [List.mem_singleton] at hp;subst hp;exact ⟨rfl,s1 _⟩) (by simp)
 ·exact wT (T:=strT) (by decide) [([.string (gq 112)],gq 112),([.string (gq 113)],gq 113)] c7 rfl (fun p hp=>by
   simp only [List.mem_cons,List.not_mem_nil,or_false] at hp;rcases hp with rfl|rfl<;>exact ⟨rfl,s1 _⟩) (by simp)
 ·exact wT (T:=ofT) (by decide) [([.string (gq 97),.int .i64 0,.int .i64 0,.int .i64 8,.int .i64 2,.int .i64 10,.slice none 0 0],OG),([.string (gq 98),.int .i64 1,.int .i64 0,.int .i64 8,.int .i64 2,.int .i64 10,.slice none 0 0],OE)] c8 rfl (fun p hp=>by
   simp only [List.mem_cons,List.not_mem_nil,or_false] at hp;rcases hp with rfl|rfl<;>exact ⟨_,rfl,s1 _,hI _ (by decide) (by decide),hI 0 (by omega) (by omega),hI 8 (by omega) (by omega),hI 2 (by omega) (by omega),hI 10 (by omega) (by omega),SL.nil _ _ _⟩) (by simp)
 ·exact wT (T:=liT) (by decide) [(Cv liX,liX),(Cv liY,liY)] c9 rfl (fun p hp=>by
   simp only [List.mem_cons,List.not_mem_nil,or_false] at hp;rcases hp with rfl|rfl
   ·exact ⟨rfl,s1 _,hI 0 (by omega) (by omega),hI 1 (by omega) (by omega),hI 0 (by omega) (by omega),hI 60 (by omega) (by omega),hI 1 (by omega) (by omega)⟩
   ·exact ⟨rfl,s1 _,hI 1 (by omega) (by omega),hI 0 (by omega) (by omega),hI 0 (by omega) (by omega),hI 60 (by omega) (by omega),hI 1 (by omega) (by omega)⟩) (by simp)
def sealB:ByteArray:=⟨#[67,48,46,49,50,48]⟩
theorem GY {n:UInt8} (h1:65<=n.toNat) (h2:n.toNat<=90):eT (gq n):=by
 refine ⟨by show (1:Nat)<=1; decide,by show (1:Nat)<=20; decide,fun i hi=> ?_⟩;have hsz:(gq n).size=1:=rfl;have:i=0:=by omega
 subst this;exact .inl ⟨h1,h2⟩
theorem OM:eT sealB:=by
 refine ⟨by decide,by decide,fun i hi=> ?_⟩;have hsz:sealB.size=6:=rfl;have h6:i=0∨i=1∨i=2∨i=3∨i=4∨i=5:=by omega
 rcases h6 with rfl|rfl|rfl|rfl|rfl|rfl
 ·exact .inl ⟨by decide,by decide⟩
 ·exact .inr (.inl ⟨by decide,by decide⟩)
 ·exact .inr (.inr (by decide))
 ·exact .inr (.inl ⟨by decide,by decide⟩)
 ·exact .inr (.inl ⟨by decide,by decide⟩)
 ·exact .inr (.inl ⟨by decide,by decide⟩)
def NA (t:Int):Dc:=⟨sealB,0,1,t,2,dU [1,cB (gq 65),cB (gq 66)],0,0⟩
def og (t:Int):Pp:=⟨MI [5,9] (NA t),gq 65,0,[cB (gq 66)]⟩
theorem Lt:jE [5,9]:=⟨by decide,by decide,by decide⟩
theorem xg (h0:0<=t) (h1:t<=1000000):DocOK [5,9] (NA t):=⟨Lt,OM,by show (0:Int)<=0; decide,by show (0:Int)<((2:Nat):Int); decide,by show (0:Int)<=1; decide,by show (1:Int)<((2:Nat):Int); decide,h0,h1,by show (1:Int)<=2; decide,by show (2:Int)<=40; decide,jm _,by show iZ 0; decide,by show iZ 0; decide⟩
theorem Gn (h0:0<=t) (h1:t<=1000000):sO [5,9] (og t)=0:=by
 have hb:=jm [0,oh (gq 66)];have hr:nW (og t):=by
  refine ⟨⟨Int.le_refl _,by show (1:Nat)<=20; decide,fun x hx=> ?_⟩,?_⟩
  ·have hx:x∈ [cB (gq 66)]:=hx;rw [List.mem_singleton] at hx;subst hx;unfold cB;omega
  ·show fC (cB (gq 65)) 0 [cB (gq 66)]=dU [1,cB (gq 65),cB (gq 66)];unfold fC fC;rw [if_neg (by unfold cB; omega),if_neg (by decide)]
 have h2:DocOK [5,9] (og t).doc:=Fh (xg h0 h1);have h3:kX [5,9] (og t).doc:=Fg _ _;have h4:kR (og t):=⟨GY (by decide) (by decide),Int.le_refl _,by show (0:Int)<2; decide⟩;rw [<-B7,ay h2,ay h3,ay h4,ay hr];rfl
theorem GV {t:TypeId} (h:Blk w g t [.string (gq 65),.string (gq 66)]):SL strT (fun k=>k<w.heap.size) w (.slice (some ⟨g,0,none⟩) 2 2) [gq 65,gq 66]:=wT (T:=strT) (by decide) [([.string (gq 65)],gq 65),([.string (gq 66)],gq 66)] h rfl (fun p hp=>by
 simp only [List.mem_cons,List.not_mem_nil,or_false] at hp;rcases hp with rfl|rfl<;>exact ⟨rfl,s1 _⟩) (by simp)
theorem sD (h0:0<=t) (h1:t<=1000000):Gives prog 32 #[.int .i64 t] w fun u w'=>Below w.heap.size w w'/\ ∃PA pc,u= .agg (Ak (og t) (.slice PA 1 pc)).toArray/\SI w' (.slice PA 1 pc) [cB (gq 66)]:=by
 refine gv (f:=32) ?_;refine ag ?_;refine dC rfl rfl KS ?_;rintro g2 w1 f1;refine ag ?_;refine ak 3 _ rfl rfl rfl gQ (aa rfl ct (aa rfl ct ah)) rfl rfl rfl rfl rfl ?_;rintro g8 w2 f2;refine ag ?_;refine ak 9 _ rfl rfl rfl uk (aa rfl ct (aa rfl ct ah)) rfl rfl rfl rfl rfl ?_;rintro g10 w3 f3;have hk:SI w3 (.slice (some ⟨g8,0,none⟩) 2 2) [5,9]:=kK _ (f2.blk.next f3.below) rfl (by decide) (by decide);refine aA rfl (Hd (x:=gq 65) (y:=gq 66) hk (GY (by decide) (by decide)) (GY (by decide) (by decide)) f3.blk (GV f3.blk) (xg h0 h1)) ?_;rintro u w4 ⟨b4,rfl⟩;refine ag ?_;refine aM rfl KT rfl is63.q rfl rfl ?_;rintro g3 w5 f5;refine ag ?_;refine ak 9 _ rfl rfl rfl uk (aa rfl ct (aa rfl ct ah)) rfl rfl rfl rfl rfl ?_;rintro g15 w6 f6;refine aA rfl (Ju (x:=gq 65) (y:=gq 66) (GY (by decide) (by decide)) (GY (by decide) (by decide)) f6.blk (GV f6.blk)) ?_;rintro u w7 ⟨b7,PA,pc,rfl,hp7⟩;refine ag ?_;refine aM rfl MS rfl is65.q rfl rfl ?_;rintro g5 w8 f8;refine ag ?_;refine jw [0,2,3,5] rfl ?_;have b68:=b7.step f8.below;have hD8:=f5.blk.next (f6.below.step b68);have b18:=f2.below.step (f3.below.step (b4.step (f5.below.step (f6.below.step b68))));have hR8:=f1.blk.next b18;have b08:=f1.below.step b18
 have q1:=f1.at_;have e1:=f1.size;refine aF rfl (fun _ _ hv=>hD8.fld hv) ?_;refine aF rfl (fun _ _ hv=>f8.blk.fld hv) ?_;refine aH [0,1,2] _ (Ak (og t) (.slice PA 1 pc)) rfl rfl rfl (aa rfl ct (aa rfl ct (aa rfl ct ah))) (by kernel_rfl) ?_;refine aQ rfl rfl rfl hR8 is67.q rfl rfl rfl ?_;rintro wr hBr hbutr hszr;refine ag ?_;refine ow results32 underlying67 (by exact is67.q) rfl (hBr) (⟨b08.grown hbutr b08.size (fun q hq=>by cases hq; omega),PA,pc,rfl,?_⟩);have hp8:=hp7.below f8.below;have s16:=(f2.below.step (f3.below.step (b4.step (f5.below.step f6.below)))).size;have s8:=f8.below.size;exact (hp8.mono (bn fun k hk hlt=>hbutr.block k hlt (fun e=>by cases e; omega))).wider fun k hk=>by have:=hbutr.size; omega
def ut (due:Int):Cl:=⟨gq 65,0,1,0,100,due,10⟩
theorem Bu {due:Int} (h:100<=due) (h1:due<=1000000):ClOK N0 (ut due):=⟨by show (0:Int)<=0; decide,by show (0:Int)<((2:Nat):Int); decide,by show (0:Int)<=1; decide,by show (1:Int)<((2:Nat):Int); decide,by show (0:Int)<=100; decide,h,h1,by show (1:Int)<=10; decide,by show (10:Int)<=1000000; decide⟩
theorem xk (hps:ps.length<=100):iG N0 d0 gP [[]] [5,9] ps (ut 150)=((1,if dec (sM [5,9] ps (gq 65) 0 150)=true then -1 else 0),0):=by
 unfold iG;rw [ay (⟨sound0,fit1,rfl,Bu (by decide) (by decide)⟩:DecOK N0 d0 gP ([[]]:List (List Int)).length (ut 150)),if_neg (by simp),if_neg (by omega),if_neg (by simp)];unfold oK;rw [show fM d0 gP [[]] (ut 150).to (ut 150).acc (ut 150).due=false from Ov,if_pos rfl];show ((1,kM (gX N0 d0 gP [[]] 150) [5,9] ps (gq 65) 150),0)=_;rw [Nr];rfl
theorem JS:dec (sM [5,9] [] (gq 65) 0 150)=false:=az fun h=>by
 obtain ⟨p,hp,_⟩:=h.2;cases hp
theorem qO:dec (sM [5,9] [og 140] lab 0 t)=dec (gq 65=lab/\140<=t):=fJ ⟨fun h=>by
 obtain ⟨p,hp,hf⟩:=h.2;rw [List.mem_singleton] at hp;subst hp;exact ⟨hf.1,hf.2.2.2.1⟩,fun ⟨h1,h2⟩=>⟨by simp,og 140,by simp,h1,rfl,by show (1:Int)≠0; decide,h2,Gn (by decide) (by decide)⟩⟩
theorem Hz:dec (sM [5,9] [og 160] (gq 65) 0 150)=false:=az fun h=>by
 obtain ⟨p,hp,hf⟩:=h.2;rw [List.mem_singleton] at hp;subst hp;have:(160:Int)<=150:=hf.2.2.2.1;omega
theorem Ib:iG N0 d0 gP [[]] [5,9] [] (ut 160)=((0,-1),0):=by
 unfold iG;rw [ay (⟨sound0,fit1,rfl,Bu (by decide) (by decide)⟩:DecOK N0 d0 gP ([[]]:List (List Int)).length (ut 160)),if_neg (by simp),if_neg (by simp),if_neg (by simp)];unfold oK;rw [show fM d0 gP [[]] (ut 160).to (ut 160).acc (ut 160).due=true from Ni,if_neg (by simp),show kH gP [[]] (ut 160).to (ut 160).due=false from PC,if_neg (by simp)]
theorem Br:iG N0 d0 EL [[]] [5,9] [] (ut 160)=((2,-1),0):=by
 unfold iG;rw [ay (⟨sound0,Nu,rfl,Bu (by decide) (by decide)⟩:DecOK N0 d0 EL ([[]]:List (List Int)).length (ut 160)),if_neg (by simp),if_neg (by simp),if_neg (by simp)];unfold oK;rw [show fM d0 EL [[]] (ut 160).to (ut 160).acc (ut 160).due=true from Ow,if_neg (by simp),show kH EL [[]] (ut 160).to (ut 160).due=true from Pz,if_pos rfl]
def JY:Cl:=⟨⟨#[]⟩,0,1,0,0,0,1⟩
theorem Eh:iG N0 d0 gP [] [] [] JY=((0,0),280):=by
 have h:DecOK N0 d0 gP ([]:List (List Int)).length JY:=⟨sound0,⟨fit1.few,by decide,Db,fit1.each⟩,rfl,⟨by show (0:Int)<=0; decide,by show (0:Int)<((2:Nat):Int); decide,by show (0:Int)<=1; decide,by show (1:Int)<((2:Nat):Int); decide,by show (0:Int)<=0; decide,by show (0:Int)<=0; decide,by show (0:Int)<=1000000; decide,by show (1:Int)<=1; decide,by show (1:Int)<=1000000; decide⟩⟩;unfold iG;rw [ay h,if_neg (by simp),if_neg (by simp),if_pos rfl]
theorem zh (ht:Tabs w) (hN:dI w v N0):Gives prog 30 #[.agg v.cells.toArray] w fun u w'=>Below w.heap.size w w'/\SD w' u d0:=(Mg ht hN sound0.cons).mono fun u w' ⟨h1,h2⟩=>⟨h1,by rw [show N0.offs.length=2 from rfl,NB] at h2; exact h2⟩
theorem lw {due st:Int} (ht:Tabs w) (hl:SE w lv l) (hps:SPp w psv ps) (hne: ∀e∈l,e.needs.length<=1000000) (hdue:eB due) (hdec:iG N0 d0 l [[]] [5,9] ps (ut due)=((st,op),0)) :
  Gives prog 31 #[lv,psv,.int .i64 due] w (ZJ w (.agg #[.int .i64 st,.int .i64 op])):=by
 refine gv (f:=31) ?_;refine ag ?_;refine dC rfl rfl uP ?_;rintro g6 w1 f1;refine ag ?_;refine aA rfl (vP) ?_;rintro y w2 ⟨b2,v,rfl,hN2⟩;have hone:(v.cells.all fun x=>x.oneCell')=true:=by
  obtain ⟨⟨A1,c1,e1⟩,⟨A2,c2,e2⟩,⟨A3,c3,e3⟩,⟨A4,c4,e4⟩,⟨A5,c5,e5⟩,⟨A6,c6,e6⟩⟩:=NetIn.form hN2;simp only [NV.cells,e1,e2,e3,e4,e5,e6];rfl
 refine aM rfl KU rfl is29.q rfl hone ?_;rintro g7 w3 f3;refine ag ?_;refine jB [13] 15 mixed (by kernel_rfl) (fun _ _ d _ _ h=>by cases d<;>exact h) fun W5 hW5=> ?_;refine dL .weak 15 (by kernel_rfl) (by kernel_rfl) rfl rfl hW5 ?_;have b03:=f1.below.step (b2.step f3.below);have hN3:=aL hN2 f3.below;have hB3:=f3.blk;refine dx rfl (fun _ _ hv=>hB3.fld hv) ?_;refine dx rfl (fun _ _ hv=>hB3.fld hv) ?_;refine fE (.pr (fun u W=>SD W u d0)) ?_ rfl (fun _ w' hb'=>zh (ht.below (b03.step hb')) (aL hN3 hb')) ?_
 ·exact fun _ _ _ hb h=>aU h hb
 refine aZ ?_;refine cK 32 _ rfl rfl rfl zf (ax rfl ct aP) rfl rfl rfl rfl rfl ?_;refine cK 3 _ rfl rfl rfl gQ (ax rfl ct (ax rfl ct aP)) rfl rfl rfl rfl rfl ?_;refine aZ ?_;refine jA [0,2,4] _ [.string (gq 65),.int .i64 0,.int .i64 1,.int .i64 0,.int .i64 100] rfl rfl rfl rfl (ax rfl ct (ax rfl ct (ax rfl ct aP))) (by kernel_rfl) ?_;refine aZ ?_;refine jA [0,1,2] _ (Ih (ut due)) rfl rfl rfl rfl (ax rfl ct (ax rfl ct (ax rfl ct aP))) (by kernel_rfl) ?_;refine iR (.ex (.tuple #[.agg #[.int .i64 st,.int .i64 op],.int .i64 0])) (trivial) rfl rfl ie13.q rfl ct (bJ rfl ct (bJ rfl ct (bJ rfl ct (bJ rfl ct (bJ rfl ct (bJ rfl ct (bJ rfl ct fK))))))) (fun _ w' hb' vs hs=> ?_) ?_
 ·obtain ⟨_,u,_,z1,z2,_,_,rfl,rfl,hu,rfl,⟨g1,rfl,hB1⟩,⟨g2,rfl,hB2⟩,rfl,rfl⟩:=uG hs;have hu:SD w' u d0:=hu;have b0':=b03.step hb';have hS:SD w' (.slice (some ⟨g1,0,none⟩) 1 1) [[]]:=yJ [(.slice none 0 0,[])] hB1 rfl (by simp; exact SL.nil _ _ _) (by simp);have hk:SI w' (.slice (some ⟨g2,0,none⟩) 2 2) [5,9]:=kK _ hB2 rfl (by decide) (by decide);refine (uo (c:=ut due) (ht.below b0') (aL hN3 hb') hu (aY hl b0') hS hk (fq hps b0') hne ⟨bN (x:=0) (by decide),bN (x:=1) (by decide),bN (x:=0) (by decide),bN (x:=100) (by decide),hdue,bN (x:=10) (by decide)⟩).mono fun x w'' ⟨h1,h2⟩=>⟨h1,?_⟩;rw [hdec] at h2;exact h2
 refine aZ ?_;refine qV rfl uP ?_;refine dD (ii [0,1,2,6,7,23,24] [(0,_,_),(1,_,_),(2,_,_),(6,_,_),(7,_,_),(23,_,_),(24,_,_)] rfl [8] rfl fun vs w5 b5 hs5=>ek ?_);obtain ⟨v8,rfl,h8⟩:=Sats.one hs5;obtain ⟨g8,rfl,hg8,hB8⟩:=h8;refine bV (by kernel_rfl) (by kernel_rfl) rfl ?_;refine aQ rfl rfl rfl hB8 is42.q rfl rfl rfl ?_;rintro w6 hB6 hbut6 hsz6;refine bG (aS [0,1,2,6,7,8,24] [(0,_,_),(1,_,_),(2,_,_),(6,_,_),(7,_,_),(8,_,_),(24,_,_)] rfl (dJ ?_));refine bV (by kernel_rfl) (by kernel_rfl) rfl ?_;refine aT df rfl ⟨ct,trivial⟩ (fun _=>trivial) ?_;refine bG (aS [0,1,2,6,7,8,9] [(0,_,_),(1,_,_),(2,_,_),(6,_,_),(7,_,_),(8,_,_),(9,_,_)] rfl (dJ ?_));refine ed rfl (aS [0,1,2,6,7,8,9] [(0,_,_),(1,_,_),(2,_,_),(6,_,_),(7,_,_),(8,_,_),(9,_,_)] rfl (aD ?_));refine ag ?_;refine aI [0,1,2,6,7,8,9,26] rfl ?_;have q1:=f1.at_;have e1:=f1.size;have s3:=(b2.step f3.below).size;have s0:=b03.size;have s5:=b5.size;have hR5:=f1.blk.next ((b2.step f3.below).step b5);have hR6:=Blk.keptO hR5 hbut6 (fun e=>by cases e; omega);have b05:=b03.step b5;have b06:Below w.heap.size w w6:=b05.grown hbut6 b05.size (fun q hq=>by cases hq; omega);refine ai rfl (fun hz=> ?_) (fun hz=> ?_)
 ·exact absurd hz (by decide)
 refine ag ?_;refine aF rfl (fun _ _ hv=>hB6.fld hv) ?_;refine aQ rfl rfl rfl hR6 is42.q rfl rfl rfl ?_;rintro wr hBr hbutr hszr;refine ag ?_;refine ow results31 underlying42 (by exact is42.q) rfl (hBr) (⟨b06.grown hbutr b06.size (fun q hq=>by cases hq; omega),rfl⟩)
theorem wK {v u:Value} {a b:List Int} {G:Nat->Prop} (ha:SL bC F w v a) (hb:SL bC G w u b):Gives prog 15 #[v,u] w fun x w'=>Below w.heap.size w w'/\x= .bool (decide (a=b)):=by
 obtain ⟨A,cap,rfl,_⟩:=ha.form;obtain ⟨B,bcap,rfl,_⟩:=hb.form;have hma:=ha.len.2.2;have hmb:=hb.len.2.2;refine gv (f:=15) ?_;refine ag ?_;refine ai rfl (fun hne=> ?_) (fun heq=> ?_)
 ·refine ag ?_;refine aW rfl ⟨ZA,by rw [decide_eq_false fun h=>by rw [h] at hne; exact hne rfl]⟩
 have hl:a.length=b.length:=by omega
 refine ag ?_;refine aJ [0,1] (fun i:Nat=> [(5,none,.int .i64 (i:Int))])
  (fun i W=>i<=a.length/\Below w.heap.size w W/\a.take i=b.take i) (fun i=>a.length-i) 0 ⟨ZB,ZA,by simp⟩ ?_
 rintro i W ⟨hi,hB,hall⟩;refine ag ?_;refine ai rfl (fun hlt=> ?_) (fun hge=> ?_)
 ·obtain ⟨x,hx,hxm⟩:=bD (l:=a) (k:=i) (by omega);obtain ⟨y,hy,hym⟩:=bD (l:=b) (k:=i) (by omega);have haW:=ha.below hB;have hbW:=hb.below hB;obtain ⟨ad,rfl⟩:=haW.addr (by omega);obtain ⟨bd,rfl⟩:=hbW.addr (by omega);refine ag ?_;refine bg mixed (by kernel_rfl) ?_;refine aZ ?_;refine aB rfl (haW.getI hx) ?_;refine aZ ?_;refine aB rfl (hbW.getI hy) ?_;refine aZ ?_;refine bR [0,1,5,25] rfl fun w2 b2=> ?_;refine aD ?_;refine ai rfl (fun hne2=> ?_) (fun heq2=> ?_)
  ·refine ag ?_;refine aW rfl ⟨hB.step b2,by rw [decide_eq_false fun h=>by rw [h,hy] at hx; cases hx; exact hne2 rfl]⟩
  ·refine ag ?_;refine aC (i+1) ⟨by omega,hB.step b2,?_⟩;rw [ZG,ZG,hall,hx,hy,show x=y by omega]
 ·refine ag ?_;refine aW rfl ⟨hB,?_⟩;rw [List.take_of_length_le (by omega),List.take_of_length_le (by omega)] at hall;rw [decide_eq_true hall]
theorem wS {e:TypeId} {A:Option Addr} {pc:Nat} (h0:0<=t) (h1:t<=1000000) (h:Blk w g e (Ak (og t) (.slice A 1 pc))) (hp:SI w (.slice A 1 pc) [cB (gq 66)]):SPp w (.slice (some ⟨g,0,none⟩) 1 1) [og t]:=wT (T:=MJ) (by decide) [(Ak (og t) (.slice A 1 pc),og t)] h rfl (fun p hp'=>by
 rw [List.mem_singleton] at hp';subst hp';exact ⟨_,rfl,H7 (Fh (xg h0 h1)) (by decide),bN (x:=0) (by decide),hp⟩) (by simp)
theorem LW (ht:Tabs w):Gives prog 10 #[] w (ZJ w (.bool true)):=by
 refine gv (f:=10) ?_;refine ag ?_;refine aA rfl (vP) ?_;rintro y w1 ⟨b1,v,rfl,hN1⟩;have hone:(v.cells.all fun x=>x.oneCell')=true:=by
  obtain ⟨⟨A1,c1,e1⟩,⟨A2,c2,e2⟩,⟨A3,c3,e3⟩,⟨A4,c4,e4⟩,⟨A5,c5,e5⟩,⟨A6,c6,e6⟩⟩:=NetIn.form hN1;simp only [NV.cells,e1,e2,e3,e4,e5,e6];rfl
 refine aM rfl KU rfl is29.q rfl hone ?_;rintro g1 w2 f2;refine ag ?_;have hN2:=aL hN1 f2.below;have b2:=b1.step f2.below;have hB2:=f2.blk;refine aF rfl (fun _ _ hv=>hB2.fld hv) ?_;refine aA rfl (zh (ht.below b2) hN2) ?_;rintro dv w3 ⟨b3,hd3⟩;refine ag ?_;refine ak 3 _ rfl rfl rfl gQ (aa rfl ct ah) rfl rfl rfl rfl rfl ?_;rintro g4 w4 f4;refine aH [1,2,3] _ [.int .i64 0,.int .i64 100,.int .i64 100,.slice (some ⟨g4,0,none⟩) 1 1] rfl rfl rfl (aa rfl ct (aa rfl ct (aa rfl ct ah))) (by kernel_rfl) ?_;refine ak 60 _ rfl rfl rfl qP (aa rfl ct ah) rfl rfl rfl rfl rfl ?_;rintro g5 w5 f5;refine ag ?_;refine jw [0,1,2,3] rfl ?_;refine ak 3 _ rfl rfl rfl gQ (aa rfl ct ah) rfl rfl rfl rfl rfl ?_;rintro g6 w6 f6;refine aH [0,1,2,3] _ [.int .i64 1,.int .i64 150,.int .i64 160,.slice (some ⟨g6,0,none⟩) 1 1] rfl rfl rfl (aa rfl ct (aa rfl ct (aa rfl ct (aa rfl ct ah)))) (by kernel_rfl) ?_;refine ak 60 _ rfl rfl rfl qP (aa rfl ct ah) rfl rfl rfl rfl rfl ?_;rintro g7 w7 f7;refine ag ?_;have b57:=f6.below.step f7.below;have b47:=f5.below.step b57;have h57:=f5.blk.next b57
 have hO7:OwnS w7 60 4 (.slice (some ⟨g7,0,none⟩) 1 1) 1 [.int .i64 1,.int .i64 150,.int .i64 160,.slice (some ⟨g6,0,none⟩) 1 1]:=bu (n:=1) f7.blk rfl (by decide);refine aK [.int .i64 0,.int .i64 100,.int .i64 100,.slice (some ⟨g4,0,none⟩) 1 1] rfl rfl uS rfl hO7 rfl rfl (fun j u hj=>⟨_,rfl,h57.fld hj⟩) (fun u hu=>by
  simp only [List.mem_cons,List.not_mem_nil,or_false] at hu;rcases hu with rfl|rfl|rfl|rfl<;>rfl) (by decide) (by decide) ?_
 rintro v8 w8 hO8 hg8 hn8;refine ag ?_;have a4:=f4.at_;have a5:=f5.at_;have a6:=f6.at_;have a7:=f7.at_;have z4:=f4.size;have z5:=f5.size;have z6:=f6.size;have z7:=f7.size;have hk8: ∀ {g:Nat} {t:TypeId} {cs:List Value},Blk w7 g t cs->g≠g7->Blk w8 g t cs:=fun h hne=>Blk.keptO h hg8 (fun e=>hne (by simp [Value.ownBlock] at e; omega));have b37:=f4.below.step b47;have s23:=b3.size;have b28:Below w2.heap.size w2 w8:=(b3.step b37).grown hg8 (b3.step b37).size (fun q hq=>by simp [Value.ownBlock] at hq; omega);have n0:SI w8 (.slice (some ⟨g4,0,none⟩) 1 1) [0]:=kK _ (hk8 (f4.blk.next b47) (by omega)) rfl (by decide) (by decide);have n1:SI w8 (.slice (some ⟨g6,0,none⟩) 1 1) [1]:=kK _ (hk8 (f6.blk.next f7.below) (by omega)) rfl (by decide) (by decide);have r0:evT.rep (fun k=>k<w8.heap.size) w8 [.int .i64 0,.int .i64 100,.int .i64 100,.slice (some ⟨g4,0,none⟩) 1 1] e0:=⟨_,rfl,bN (x:=0) (by decide),bN (x:=100) (by decide),bN (x:=100) (by decide),n0⟩;have r1:evT.rep (fun k=>k<w8.heap.size) w8 [.int .i64 1,.int .i64 150,.int .i64 160,.slice (some ⟨g6,0,none⟩) 1 1] e1:=⟨_,rfl,bN (x:=1) (by decide),bN (x:=150) (by decide),bN (x:=160) (by decide),n1⟩
 have hE1:SE w8 (.slice (some ⟨g5,0,none⟩) 1 1) gP:=wT (T:=evT) (by decide) [([.int .i64 0,.int .i64 100,.int .i64 100,.slice (some ⟨g4,0,none⟩) 1 1],e0)] (hk8 h57 (by omega)) rfl (fun p hp=>by
  rw [List.mem_singleton] at hp;subst hp;exact r0) (by simp)
 have hE2:SE w8 v8 EL:=dR (T:=evT) (F:=fun k=>k<w8.heap.size) [([.int .i64 1,.int .i64 150,.int .i64 160,.slice (some ⟨g6,0,none⟩) 1 1],e1),([.int .i64 0,.int .i64 100,.int .i64 100,.slice (some ⟨g4,0,none⟩) 1 1],e0)] (fun p hp=>by
  simp only [List.mem_cons,List.not_mem_nil,or_false] at hp;rcases hp with rfl|rfl
  ·exact r1
  ·exact r0) (by decide) hO8 rfl (fun q hq=>hO8.lt hq) (by simp)
 refine ak 32 _ rfl rfl rfl zf (aa rfl ct ah) rfl rfl rfl rfl rfl ?_;rintro g9 w9 f9;refine ag ?_;have hS9:SD w9 (.slice (some ⟨g9,0,none⟩) 1 1) [[]]:=yJ [(.slice none 0 0,[])] f9.blk rfl (by simp; exact SL.nil _ _ _) (by simp);have b29:=b28.step f9.below;have b9:=b2.step b29;have ht9:=ht.below b9;have hN9:=aL hN2 b29;have hd9:SD w9 dv d0:=by
  have q38:Below w3.heap.size w3 w8:=b37.grown hg8 b37.size (fun q hq=>by simp [Value.ownBlock] at hq; omega);exact aU hd3 (q38.step f9.below)
 have hE19:=aY hE1 f9.below;have hE29:=aY hE2 f9.below;have hB9:=hB2.next b29;have ne1: ∀e∈gP,e.needs.length<=1000000:=by decide
 have ne2: ∀e∈EL,e.needs.length<=1000000:=by decide
 refine aA rfl (lw (l:=gP) (ps:= []) (st:=1) (op:=0) ht9 hE19 (SL.nil _ _ _) ne1 (bN (by decide)) (by rw [xk (by decide),JS]; rfl)) ?_;rintro y w10 ⟨b10,rfl⟩;have c10:=b10;refine aH [0] _ [.int .i64 1,.int .i64 0] rfl rfl rfl (aa rfl ct ah) (by kernel_rfl) ?_;refine qi rfl rfl rfl ct rfl ct (by kernel_rfl) ?_;refine ag ?_;refine aA rfl (sD (t:=140) (by decide) (by decide)) ?_;rintro y w11 ⟨b11,PA11,pc11,rfl,hp11⟩;refine ak 67 _ rfl rfl rfl JW (aa rfl ct ah) rfl rfl rfl rfl rfl ?_;rintro g11p w11p f11p;have hP11:=wS (by decide) (by decide) f11p.blk (hp11.step dV f11p.below);have c11:Below w9.heap.size w9 w11p:=(c10.step b11).step f11p.below;refine aA rfl (lw (l:=gP) (ps:= [og 140]) (st:=1) (op:= -1) (ht9.below c11) (aY hE19 c11) hP11 ne1 (bN (by decide)) (by rw [xk (by simp),qO,ay ⟨rfl,by decide⟩]; rfl)) ?_;rintro y w12 ⟨b12,rfl⟩;have c12:=c11.step b12;refine aH [0,1] _ [.int .i64 1,.int .i64 (-1)] rfl rfl rfl (aa rfl ct (aa rfl ct ah)) (by kernel_rfl) ?_;refine qi rfl rfl rfl ct rfl ct (by kernel_rfl) ?_;refine ag ?_;refine aA rfl (sD (t:=160) (by decide) (by decide)) ?_;rintro y w13 ⟨b13,PA13,pc13,rfl,hp13⟩;refine ak 67 _ rfl rfl rfl JW (aa rfl ct ah) rfl rfl rfl rfl rfl ?_
 rintro g13p w13p f13p;have hP13:=wS (by decide) (by decide) f13p.blk (hp13.step dV f13p.below);have c13:Below w9.heap.size w9 w13p:=(c12.step b13).step f13p.below;refine aA rfl (lw (l:=gP) (ps:= [og 160]) (st:=1) (op:=0) (ht9.below c13) (aY hE19 c13) hP13 ne1 (bN (by decide)) (by rw [xk (by simp),Hz]; rfl)) ?_;rintro y w14 ⟨b14,rfl⟩;have c14:=c13.step b14;refine aH [0] _ [.int .i64 1,.int .i64 0] rfl rfl rfl (aa rfl ct ah) (by kernel_rfl) ?_;refine qi rfl rfl rfl ct rfl ct (by kernel_rfl) ?_;refine ag ?_;refine aA rfl (lw (l:=gP) (ps:= []) (st:=0) (op:= -1) (ht9.below c14) (aY hE19 c14) (SL.nil _ _ _) ne1 (bN (by decide)) Ib) ?_;rintro y w15 ⟨b15,rfl⟩;have c15:=c14.step b15;refine aH [1] _ [.int .i64 0,.int .i64 (-1)] rfl rfl rfl (aa rfl ct ah) (by kernel_rfl) ?_;refine qi rfl rfl rfl ct rfl ct (by kernel_rfl) ?_;refine ag ?_;refine aA rfl (lw (l:=EL) (ps:= []) (st:=2) (op:= -1) (ht9.below c15) (aY hE29 c15) (SL.nil _ _ _) ne2 (bN (by decide)) Br) ?_;rintro y w16 ⟨b16,rfl⟩;have c16:=c15.step b16;have hB16:=hB9.next c16;refine aH [0,1] _ [.int .i64 2,.int .i64 (-1)] rfl rfl rfl (aa rfl ct (aa rfl ct ah)) (by kernel_rfl) ?_;refine qi rfl rfl rfl ct rfl ct (by kernel_rfl) ?_
 refine ag ?_;refine jw [0,1,2,3,4,5,6,7,8,9,10] rfl ?_;refine aF rfl (fun _ _ hv=>hB16.fld hv) ?_;refine ag ?_;refine aH [2] _ [.string ⟨#[]⟩,.int .i64 0,.int .i64 1,.int .i64 0,.int .i64 0] rfl rfl rfl (aa rfl ct ah) (by kernel_rfl) ?_;refine aH [0,2] _ (Ih JY) rfl rfl rfl (aa rfl ct (aa rfl ct ah)) (by kernel_rfl) ?_;refine aA rfl (uo (ws:= []) (ks:= []) (ps:= []) (c:=JY) (F:=fun _=>True) (ht9.below c16) (aL hN9 c16) (aU hd9 c16) (aY hE19 c16) (SL.nil _ _ _) (SL.nil _ _ _) (SL.nil _ _ _) ne1 ⟨bN (x:=0) (by decide),bN (x:=1) (by decide),bN (x:=0) (by decide),bN (x:=0) (by decide),bN (x:=0) (by decide),bN (x:=1) (by decide)⟩) ?_;rintro y w17 ⟨b17,rfl⟩;rw [Eh];have c17:=c16.step b17;refine ag ?_;refine aM rfl uP rfl is42.q rfl rfl ?_;rintro g18 w18 f18;refine ag ?_;have c18:=c17.step f18.below;refine aA rfl (yX (aU hd9 c18) (aY hE19 c18)) ?_;rintro y w19 ⟨b19,tv,rfl⟩;rw [ay JR];have c19:=c18.step b19;refine ag ?_;refine aA rfl (ER (most:=0) (aU hd9 c19) (aY hE19 c19) (by decide)) ?_;rintro y w20 ⟨b20,wv,rfl,hw20⟩;rw [M7];rw [BZ] at hw20;obtain ⟨WA,wc,rfl,_⟩:=hw20.form;have c20:=c19.step b20;have hB20:=hB9.next c20;refine aT aX rfl ⟨ct,trivial⟩ (fun _=>trivial) ?_
 refine aT jO rfl ⟨ct,trivial⟩ (fun _=>rfl) ?_;refine aT jO rfl ⟨ct,trivial⟩ (fun _=>rfl) ?_;refine aT df rfl ⟨ct,trivial⟩ (fun _=>trivial) ?_;refine aT df rfl ⟨ct,trivial⟩ (fun _=>trivial) ?_;refine bG (aS [0,1,2,3,4,5,6,7,8,9,10,12,14,15,16] [(0,_,_),(1,_,_),(2,_,_),(3,_,_),(4,_,_),(5,_,_),(6,_,_),(7,_,_),(8,_,_),(9,_,_),(10,_,_),(12,_,_),(14,_,_),(15,_,_),(16,_,_)] rfl (aD ?_));refine cO (bE ?_);refine aT aX rfl ⟨ct,trivial⟩ (fun _=>trivial) ?_;refine aT aX rfl ⟨ct,trivial⟩ (fun _=>trivial) ?_;refine bf rfl rfl ?_;refine aT aX rfl ⟨ct,trivial⟩ (fun _=>trivial) ?_;refine fO rfl rfl rfl ct rfl pT ?_;refine aT aX rfl ⟨ct,trivial⟩ (fun _=>trivial) ?_;refine bf rfl rfl ?_;refine aT aX rfl ⟨ct,trivial⟩ (fun _=>trivial) ?_;refine fO rfl rfl rfl ct rfl pT ?_;refine aT aX rfl ⟨ct,trivial⟩ (fun _=>trivial) ?_;refine bf rfl rfl ?_;refine aT aX rfl ⟨ct,trivial⟩ (fun _=>trivial) ?_;refine fO rfl rfl rfl ct rfl pT ?_;refine aT aX rfl ⟨ct,trivial⟩ (fun _=>trivial) ?_;refine bf rfl rfl ?_;refine aT aX rfl ⟨ct,trivial⟩ (fun _=>trivial) ?_;refine fO rfl rfl rfl ct rfl pT ?_;refine aT aX rfl ⟨ct,trivial⟩ (fun _=>trivial) ?_;refine bf rfl rfl ?_;refine aT aX rfl ⟨ct,trivial⟩ (fun _=>trivial) ?_
 refine bf rfl rfl ?_;refine ag ?_;refine bf rfl rfl ?_;refine aF rfl (fun _ _ hv=>hB20.fld hv) ?_;refine bf rfl rfl ?_;refine aT aX rfl ⟨ct,trivial⟩ (fun _=>trivial) ?_;refine bf rfl rfl ?_;refine aT aX rfl ⟨ct,trivial⟩ (fun _=>trivial) ?_;refine bf rfl rfl ?_;refine ag ?_;refine bf rfl rfl ?_;refine aA rfl (nM (ht9.below c20) (aL hN9 c20) (aU hd9 c20) (aY hE19 c20) (aU hS9 c20) ne1) ?_;rintro y w21 ⟨b21,h21⟩;rw [Nr] at h21;have c21:=c20.step b21;refine bf rfl rfl ?_;refine ak 3 _ rfl rfl rfl gQ (aa rfl ct ah) rfl rfl rfl rfl rfl ?_;rintro g22 w22 f22;refine bf rfl rfl ?_;have c22:=c21.step f22.below;refine aA rfl (wK (h21.below f22.below) (kK [0] f22.blk rfl (by decide) (by decide))) ?_;rintro y w23 ⟨b23,rfl⟩;have c23:=c22.step b23;have hB23:=hB9.next c23;refine ag ?_;refine bf rfl rfl ?_;refine aF rfl (fun _ _ hv=>hB23.fld hv) ?_;refine bf rfl rfl ?_;refine aT aX rfl ⟨ct,trivial⟩ (fun _=>trivial) ?_;refine bf rfl rfl ?_;refine aT aX rfl ⟨ct,trivial⟩ (fun _=>trivial) ?_;refine bf rfl rfl ?_;refine ag ?_;refine bf rfl rfl ?_;refine aA rfl (nM (ht9.below c23) (aL hN9 c23) (aU hd9 c23) (aY hE19 c23) (aU hS9 c23) ne1) ?_;rintro y w24 ⟨b24,h24⟩;rw [ON] at h24;have c24:=c23.step b24
 refine bf rfl rfl ?_;refine ak 3 _ rfl rfl rfl gQ (aa rfl ct (aa rfl ct ah)) rfl rfl rfl rfl rfl ?_;rintro g25 w25 f25;refine bf rfl rfl ?_;have c25:=c24.step f25.below;refine aA rfl (wK (h24.below f25.below) (kK [0,1] f25.blk rfl (by decide) (by decide))) ?_;rintro y w26 ⟨b26,rfl⟩;have c26:=c25.step b26;refine ag ?_;refine bf rfl rfl ?_;refine ak 3 _ rfl rfl rfl gQ (aa rfl ct (aa rfl ct ah)) rfl rfl rfl rfl rfl ?_;rintro g27 w27 f27;refine bf rfl rfl ?_;have c27:=c26.step f27.below;refine aA rfl (sD (t:=140) (by decide) (by decide)) ?_;rintro y w28 ⟨b28',PA28,pc28,rfl,hp28⟩;refine bf rfl rfl ?_;refine ak 67 _ rfl rfl rfl JW (aa rfl ct ah) rfl rfl rfl rfl rfl ?_;rintro g29 w29 f29;refine bf rfl rfl ?_;have hP29:=wS (by decide) (by decide) f29.blk (hp28.step dV f29.below);have c29:=(c27.step b28').step f29.below;refine aA rfl (nP (lab:=gq 65) (kK [5,9] (f27.blk.next (b28'.step f29.below)) rfl (by decide) (by decide)) hP29) ?_;rintro y w30 ⟨b30,rfl⟩;rw [qO,ay (p:=gq 65=gq 65/\(140:Int)<=140) ⟨rfl,by decide⟩];have c30:=c29.step b30;refine ag ?_;refine bf rfl rfl ?_;refine ak 3 _ rfl rfl rfl gQ (aa rfl ct (aa rfl ct ah)) rfl rfl rfl rfl rfl ?_;rintro g31 w31 f31;refine bf rfl rfl ?_
 have c31:=c30.step f31.below;refine aA rfl (sD (t:=140) (by decide) (by decide)) ?_;rintro y w32 ⟨b32,PA32,pc32,rfl,hp32⟩;refine bf rfl rfl ?_;refine ak 67 _ rfl rfl rfl JW (aa rfl ct ah) rfl rfl rfl rfl rfl ?_;rintro g33 w33 f33;refine bf rfl rfl ?_;have hP33:=wS (by decide) (by decide) f33.blk (hp32.step dV f33.below);have c33:=(c31.step b32).step f33.below;refine aA rfl (nP (lab:=gq 66) (kK [5,9] (f31.blk.next (b32.step f33.below)) rfl (by decide) (by decide)) hP33) ?_;rintro y w34 ⟨b34,rfl⟩;rw [qO,az (p:=gq 65=gq 66/\(140:Int)<=140) (fun h=>xq (by decide) h.1)];have c34:=c33.step b34;refine bf rfl rfl ?_;refine aT wo rfl ⟨ct,trivial⟩ (fun _=>trivial) ?_;refine fO rfl rfl rfl ct rfl pT ?_;refine aT aX rfl ⟨ct,trivial⟩ (fun _=>trivial) ?_;refine bf rfl rfl ?_;refine aT aX rfl ⟨ct,trivial⟩ (fun _=>trivial) ?_;refine fO rfl rfl rfl ct rfl pT ?_;refine aT aX rfl ⟨ct,trivial⟩ (fun _=>trivial) ?_;refine bf rfl rfl ?_;refine aT aX rfl ⟨ct,trivial⟩ (fun _=>trivial) ?_;refine bf rfl rfl ?_;refine aT uz rfl ⟨ct,ct,trivial⟩ (fun _=>trivial) ?_;refine fO rfl rfl rfl ct rfl pT ?_;refine aT aX rfl ⟨ct,trivial⟩ (fun _=>trivial) ?_;refine bf rfl rfl ?_
 refine aT aX rfl ⟨ct,trivial⟩ (fun _=>trivial) ?_;refine bf rfl rfl ?_;refine aT gI rfl ⟨ct,trivial⟩ (fun _=>trivial) ?_;refine bf rfl rfl ?_;refine aT uz rfl ⟨ct,ct,trivial⟩ (fun _=>trivial) ?_;refine fO rfl rfl rfl ct rfl pT ?_;refine aT aX rfl ⟨ct,trivial⟩ (fun _=>trivial) ?_;refine bf rfl rfl ?_;refine aT aX rfl ⟨ct,trivial⟩ (fun _=>trivial) ?_;refine bf rfl rfl ?_;refine aT aX rfl ⟨ct,trivial⟩ (fun _=>trivial) ?_;refine bf rfl rfl ?_;refine ag ?_;refine bf rfl rfl ?_;refine aA rfl (Ch (aU hd9 c34) (aY hE19 c34) (aU hS9 c34) ne1 ⟨bN (x:=1) (by decide),bN (x:=100) (by decide),bN (x:=160) (by decide)⟩) ?_;rintro y w35 ⟨b35,rfl⟩;rw [Ni];refine ag ?_;refine aW rfl ⟨b9.step (c34.step b35),rfl⟩
structure FewK (ks:List Int) (ps:List Pp):Prop where
 k:ks.length<=10
 p:ps.length<=12
 each: ∀p∈ps,p.path.length<=30/\p.label.size<=40/\p.doc.sl.size<=40
theorem FX (hk:SL bC F w kv ks) (hps:SPp w psv ps):Gives prog 12 #[kv,psv] w (ZJ w (.bool (dec (FewK ks ps)))):=by
 obtain ⟨KA,kc,rfl,_⟩:=hk.form;obtain ⟨A,cap,rfl,_⟩:=hps.form;have hmk:=hk.len.2.2;have hmax:=hps.len.2.2;refine gv (f:=12) ?_;refine ag ?_;refine aJ [0,1] (fun i:Nat=> [(5,none,.int .i64 (i:Int))])
  (fun i W=>i<=ps.length/\Below w.heap.size w W/\ ∀p∈ps.take i,p.path.length<=30/\p.label.size<=40/\p.doc.sl.size<=40) (fun i=>ps.length-i) 0 ⟨ZB,ZA,by simp⟩ ?_
 rintro i W ⟨hi,hB,hall⟩;refine ag ?_;refine ai rfl (fun hlt=> ?_) (fun hge=> ?_)
 ·obtain ⟨p,hp,hpm⟩:=bD (l:=ps) (k:=i) (by omega);have hW:=fq hps hB;obtain ⟨ad,rfl⟩:=hW.addr (by omega);obtain ⟨pv,hcells,hd,hix,hpath⟩:=SPp.get hW hp;obtain ⟨PA,pc,rfl,_⟩:=hpath.form;refine ag ?_;refine aj rfl (hcells 10 _ rfl) ?_;refine ag ?_;refine aj rfl (hcells 8 _ rfl) ?_;refine ag ?_;refine aj rfl (hcells 0 _ rfl) ?_;refine ag ?_;refine aI [0,1,5,38] rfl ?_;refine au rfl (fun hbad=> ?_) (fun hgood=> ?_)
  ·refine ag ?_;refine aW rfl ⟨hB,?_⟩;rw [az fun h=> ?_];have:=h.each p hpm;simp at hbad;omega
  ·refine ag ?_;refine aC (i+1) ⟨by omega,hB,fun q hq=> ?_⟩;rw [ZG,hp] at hq;rcases ZH hq with hq|hq
   ·exact hall q hq
   ·simp at hq;subst hq;simp at hgood;omega
 ·refine ag ?_;refine aW rfl ⟨hB,?_⟩;rw [List.take_of_length_le (by omega)] at hall;by_cases h:FewK ks ps
  ·rw [ay h];have:=h.k;have:=h.p;simp;omega
  ·rw [az h];have: ¬(ks.length<=10/\ps.length<=12):=fun q=>h ⟨q.1,q.2,hall⟩;simp;omega
theorem rq {x n:Int}:Gives prog 97 #[.int .i64 x,.int .i64 n] w (ZJ w (.bool (decide (0<=x/\x<n)))):=by
 refine gv (f:=97) ?_;refine ag ?_;refine aW rfl ⟨ZA,by simp⟩
theorem Gc (hN:dI w v N):Gives prog 45 #[.agg v.cells.toArray,.agg (Ih c).toArray] w (ZJ w (.bool (dec (ClOK N c)))):=by
 have hform:=NetIn.form hN;obtain ⟨vc,vn,vo,vf,vl,vk⟩:=v;obtain ⟨⟨A1,c1,e1⟩,⟨A2,c2,e2⟩,⟨A3,c3,e3⟩,⟨A4,c4,e4⟩,⟨A5,c5,e5⟩,⟨A6,c6,e6⟩⟩:=id hform;dsimp only at e1 e2 e3 e4 e5 e6;subst e1 e2 e3 e4 e5 e6;have hmax:=hN.f.len.2.2;refine gv (f:=45) ?_;refine ag ?_;refine aG rfl rfl rfl rfl ?_;rintro g2 w1 f1;refine aG rfl rfl rfl rfl ?_;rintro g3 w2 f2;refine ag ?_;have b2:=f1.below.step f2.below;have hN2:=f1.blk.next f2.below;have hC2:=f2.blk;refine aj rfl (hC2.fld (j:=1) rfl) ?_;refine ag ?_;refine aj rfl (hN2.fld (j:=3) rfl) ?_;refine ag ?_;refine aA rfl (rq) ?_;rintro y w3 ⟨b3,rfl⟩;refine ag ?_;refine aj rfl ((hC2.next b3).fld (j:=2) rfl) ?_;refine ag ?_;refine aj rfl ((hN2.next b3).fld (j:=3) rfl) ?_;refine ag ?_;refine aO (cap:= []) rfl rfl ie97.q rfl ct (aa rfl id (aa rfl id ah)) (fun _=>rq) ?_;rintro w4 b4;refine ag ?_;have hC4:=hC2.next (b3.step b4);refine aj rfl (hC4.fld (j:=4) rfl) ?_;refine ag ?_;refine aj rfl (hC4.fld (j:=4) rfl) ?_;refine ag ?_;refine aj rfl (hC4.fld (j:=5) rfl) ?_;refine ag ?_;refine aj rfl (hC4.fld (j:=5) rfl) ?_;refine ag ?_;refine aj rfl (hC4.fld (j:=6) rfl) ?_;refine ag ?_;refine aj rfl (hC4.fld (j:=6) rfl) ?_;refine ag ?_
 refine aW rfl ⟨b2.step (b3.step b4),?_⟩;by_cases h:ClOK N c
 ·rw [ay h];obtain ⟨h1,h2,h3,h4,h5,h6,h7,h8,h9⟩:=h;simp;omega
 ·rw [az h,Value.bool.injEq,Bool.eq_false_iff];intro hq;simp only [Bool.and_eq_true,decide_eq_true_eq] at hq;exact h ⟨by omega,by omega,by omega,by omega,by omega,by omega,by omega,by omega,by omega⟩
structure RightP (N:Net) (d:bA) (l:List Ev) (ws:List (List Int)) (c:Cl):Prop where
 light:LightP N d l ws
 sound:SoundOK keys11 N
 fit:FitW d l ws.length
 same:d.length=N.offs.length
 claim:ClOK N c
 lab:c.label.size<=40
theorem LightP.needs {N:Net} {d:bA} {l:List Ev} {ws:List (List Int)} (h:LightP N d l ws): ∀e∈l,e.needs.length<=1000000:=fun e he=>by have:=h.few.nd e he; omega
theorem LightP.len (h:LightP N d l ws):l.length<=8:=by have:=h.few.fd.l1; omega
theorem RightP.dec (h:RightP N d l ws c):DecOK N d l ws.length c:=⟨h.sound,h.fit,h.same,h.claim⟩
theorem Lf {b:Nat}:Gives prog 184 #[.int .u8 (b:Int)] w (ZJ w (.bool (decide (65<=b/\b<=90)))):=by
 refine gv (f:=184) ?_;refine ag ?_;refine aW rfl ⟨ZA,?_⟩;by_cases h1:65<=b<;>by_cases h2:b<=90<;>simp [h1,h2]<;>omega
theorem xU (hs:s.size<=9223372036854775807):Gives prog 106 #[.string s] w (ZJ w (.bool (dec (eT s)))):=by
 refine gv (f:=106) ?_;refine ag ?_;refine aJ [0] (fun k:Nat=> [(3,none,.int .i64 (k:Int))])
  (fun k W=>k<=s.size/\Below w.heap.size w W/\ ∀i,i<k->okB (fD s i)) (fun k=>s.size-k) 0 ⟨ZB,ZA,fun i hi=>by omega⟩ ?_
 rintro k W ⟨hk,hB,hok⟩;refine ag ?_;refine ai rfl (fun hlt=> ?_) (fun hge=> ?_)
 ·have hks:k<s.size:=by omega
  refine ag ?_;have hbt:(((s.data.getD (k:Int).toNat 0).toNat:Nat))=fD s k:=rfl;rw [hbt];refine aA rfl (Lf) ?_;rintro y1 w1 ⟨hb1,rfl⟩;refine ag ?_;refine aI [0,3,32] rfl ?_;rw [hbt];refine au rfl (fun hbad=> ?_) (fun hgood=> ?_)
  ·refine ag ?_;refine aW rfl ⟨hB.step hb1,?_⟩;rw [az fun h=> ?_];have h1:=h.2.2 k hks;unfold okB at h1;simp at hbad;omega
  ·have h1:okB (fD s k):=by
    unfold okB;simp at hgood;omega
   refine ag ?_;refine aC (k+1) ⟨by omega,hB.step hb1,fun i hi=> ?_⟩;rcases ZI i k with h|h
   ·exact hok i h
   ·have:i=k:=by omega
    subst this;exact h1
 ·have hke:k=s.size:=by omega
  subst hke;refine ag ?_;refine aW rfl ⟨hB,?_⟩;by_cases h:1<=s.size/\s.size<=20
  ·rw [ay (p:=eT s) ⟨h.1,h.2,hok⟩];simp;omega
  ·rw [az (p:=eT s) fun h'=>h ⟨h'.1,h'.2.1⟩];simp;omega
theorem tq:Gives prog 185 #[] w (ZJ w (.int .i64 2147483647)):=by
 refine gv (f:=185) ?_;refine ag ?_;refine aW rfl ⟨ZA,rfl⟩
theorem qD {v:Value} {l:List Int} (h:SL bC F w v l):Gives prog 181 #[v] w (ZJ w (.int .i64 (dU l))):=by
 obtain ⟨A,cap,rfl,_⟩:=h.form;have hmax:=h.len.2.2;refine gv (f:=181) ?_;refine ag ?_;refine aJ [0] (fun i:Nat=> [(3,none,.int .i64 (dU (l.take i))),(4,none,.int .i64 (i:Int))])
  (fun i W=>i<=l.length/\Below w.heap.size w W) (fun i=>l.length-i) 0 ⟨ZB,ZA⟩ ?_
 rintro i W ⟨hi,hB⟩;refine ag ?_;refine ai rfl (fun hlt=> ?_) (fun hge=> ?_)
 ·obtain ⟨x,hx,hxm⟩:=bD (l:=l) (k:=i) (by omega);have hW:=h.below hB;obtain ⟨ad,rfl⟩:=hW.addr (by omega);have hr:=jm (l.take i);have hm:= @Ng x;have hb1:=Int.emod_nonneg x (b:=2147483647) (by decide);have hb2:=Int.emod_lt_of_pos x (b:=2147483647) (by decide);refine ag ?_;refine bg mixed (by kernel_rfl) ?_;refine aZ ?_;refine aB rfl (hW.getI hx) ?_;refine fE (.ex (.int .i64 2147483647)) trivial rfl (fun _ w' hb'=>tq) ?_;refine bL (Iv (by decide)) rfl ⟨ct,ct,trivial⟩ (fun _=>trivial) ?_;refine aZ ?_;refine bR [0,3,4,5] rfl fun w2 b2=> ?_;refine ag ?_;refine aI [0,3,4,5,19] rfl ?_;have hB2:=hB.step b2;refine ai rfl (fun hneg=> ?_) (fun hpos=> ?_)
  ·refine ag ?_;refine aA rfl (tq) ?_;rintro y w3 ⟨b3,rfl⟩;refine ag ?_;rw [hm.1 hneg];refine aA rfl (tq) ?_;rintro y w4 ⟨b4,rfl⟩;refine ag ?_;refine aC (i+1) ⟨by omega,(hB2.step b3).step b4⟩ (hp:= ?_);rw [pq hx];rfl
  ·refine ag ?_;rw [hm.2 hpos];refine aA rfl (tq) ?_;rintro y w4 ⟨b4,rfl⟩;refine ag ?_;refine aC (i+1) ⟨by omega,hB2.step b4⟩ (hp:= ?_);rw [pq hx];rfl
 ·refine ag ?_;refine aW rfl ⟨hB,?_⟩;rw [List.take_of_length_le (by omega)]
theorem BD {i:Nat} (h:i<s.size):(iN s).take (i+1)=(iN s).take i++ [((s.data.getD i 0).toNat:Int)]:=by
 refine qz ?_;unfold iN;rw [List.getElem?_map,List.getElem?_range h];rfl
theorem x8 (hs:s.size<=1000000):Gives prog 186 #[.string s] w fun u w'=>Below w.heap.size w w'/\SI w' u (iN s):=by
 refine gv (f:=186) ?_;refine ag ?_;refine gJ 3 rfl rfl gQ ?_;rintro g1 w1 f1;have hg1:=f1.at_;refine ag ?_;refine aJ [0] (fun x:Nat×Value=> [(3,none,x.2),(4,none,.int .i64 (x.1:Int))])
  (fun x W=>x.1<=s.size/\Below w.heap.size w W/\OwnS W 3 1 x.2 x.1 (((iN s).take x.1).map (Value.int .i64))/\ ∀q,x.2.ownBlock=some q->w.heap.size<=q) (fun x=>s.size-x.1) (0,.slice (some ⟨g1,0,none⟩) 0 0) ⟨ZB,f1.below,bu f1.blk rfl (by omega),fun q hq=>by simp [Value.ownBlock] at hq; omega⟩ ?_
 rintro ⟨i,v⟩ W ⟨hi,hB,hO,hq⟩;dsimp only at hi hB hO hq;refine ag ?_;refine ai rfl (fun hlt=> ?_) (fun hge=> ?_)
 ·dsimp only at hlt;have hib:i<s.size:=by omega
  have hbt:=(s.data.getD i 0).toNat_lt;have e1:IntKind.i64.wrap ((s.data.getD (i:Int).toNat 0).toNat:Int)=((s.data.getD i 0).toNat:Int):=dO (by rw [Int.toNat_natCast]; omega);refine ag ?_;rw [e1];refine ak 3 _ rfl rfl rfl gQ (aa rfl ct ah) rfl rfl rfl rfl rfl ?_;rintro g5 w5 f5;refine aK [.int .i64 ((s.data.getD i 0).toNat:Int)] rfl rfl lF rfl (hO.below f5.below) rfl rfl (fun j u hj=>⟨_,rfl,f5.blk.fld hj⟩) (fun u hu=>by simp at hu; subst hu; rfl) (by omega) (by omega) ?_;rintro v6 w6 hO6 hg6 hn6;refine ag ?_;have hB5:=hB.step f5.below;refine aC (i+1,v6) ⟨by show i+1<=s.size; omega,hB5.grown hg6 hB5.size hq,?_,pN hn6 hq hB5.size⟩;rw [BD hib,List.map_append];exact hO6
 ·have hie:i=s.size:=by
   dsimp only at hge;omega
  subst hie;rw [List.take_of_length_le (by rw [iD]; exact ZC)] at hO;refine ag ?_;refine aW rfl ⟨hB,?_⟩;rw [<-iD s] at hO;exact dz hO vX (fun q hq=>hO.lt hq) (by rw [iD]; omega)
theorem xV (hs:s.size<=1000000):Gives prog 187 #[.string s] w (ZJ w (.int .i64 (oh s))):=by
 refine gv (f:=187) ?_;refine ag ?_;refine aA rfl (x8 hs) ?_;rintro y w1 ⟨b1,h1⟩;refine aA rfl (qD h1) ?_;rintro y w2 ⟨b2,rfl⟩;refine ag ?_;refine aW rfl ⟨b1.step b2,rfl⟩
theorem Gb {i:Int} {v:Value} {p:List Int} (hp:SL bC F w v p) (hs:s.size<=1000000) (hi:eB i) :
  Gives prog 107 #[.string s,.int .i64 i,v] w fun u w'=>Below w.heap.size w w'/\((ClimbOK i p/\ ∃A n c,u= .tuple #[.int .i64 (fC (cB s) i p),.slice A (n+1) c])∨(¬ClimbOK i p/\u= .tuple #[.int .i64 0,.slice none 0 0])):=by
 obtain ⟨A,cap,rfl,_⟩:=hp.form;have hmax:=hp.len.2.2;refine gv (f:=107) ?_;refine ag ?_;refine au rfl (fun hbad=> ?_) (fun hgood=> ?_)
 ·refine ag ?_;refine jH rfl ⟨ZA,.inr ⟨fun h=> ?_,rfl⟩⟩;have h1:=h.i0;have h2:=h.few;simp at hbad;omega
 have hi0:0<=i:=by
  simp at hgood;omega
 have hfew:p.length<=20:=by
  simp at hgood;omega
 refine ag ?_;refine aJ [0,1,2] (fun k:Nat=> [(8,none,.int .i64 (k:Int))])
  (fun k W=>k<=p.length/\Below w.heap.size w W/\ ∀x∈p.take k,-1<=x/\x<2147483647) (fun k=>p.length-k) 0 ⟨ZB,ZA,by simp⟩ ?_
 rintro k W ⟨hk,hB,hok⟩;refine ag ?_;refine ai rfl (fun hlt=> ?_) (fun hge=> ?_)
 ·obtain ⟨x,hx,hxm⟩:=bD (l:=p) (k:=k) (by omega);have hpW:=hp.below hB;obtain ⟨ad,rfl⟩:=hpW.addr (by omega);refine ag ?_;refine bg mixed (by kernel_rfl) ?_;refine aZ ?_;refine aB rfl (hpW.getI hx) ?_;refine aZ ?_;refine aB rfl (hpW.getI hx) ?_;refine fE (.ex (.int .i64 2147483647)) trivial rfl (fun _ w' hb'=>tq) ?_;refine aZ ?_;refine bR [0,1,2,8,38] rfl fun w2 b2=> ?_;refine aD ?_;refine au rfl (fun hout=> ?_) (fun hin=> ?_)
  ·refine ag ?_;refine jH rfl ⟨hB.step b2,.inr ⟨fun h=> ?_,rfl⟩⟩;have:=h.each x hxm;simp at hout;omega
  ·have hin2: -1<=x/\x<2147483647:=by
    simp at hin;omega
   refine ag ?_;refine aC (k+1) ⟨by omega,hB.step b2,fun y hy=> ?_⟩;rw [ZG,hx] at hy;rcases ZH hy with hy|hy
   ·exact hok y hy
   ·simp at hy;subst hy;exact hin2
 have hke:k=p.length:=by omega
 subst hke;rw [List.take_length] at hok;have hC:ClimbOK i p:=⟨hi0,hfew,hok⟩;refine ag ?_;refine aA rfl (x8 hs) ?_;rintro y w1 ⟨b1,h1⟩;obtain ⟨CA,cn,cc,hcv⟩: ∃CA cn cc,y= .slice CA cn cc:=by
  obtain ⟨CA,cc,hcv,_⟩:=h1.form;exact ⟨_,_,_,hcv⟩
 subst hcv;refine ag ?_;refine aA rfl (xV hs) ?_;rintro y w2 ⟨b2,rfl⟩;refine ak 3 _ rfl rfl rfl gQ (aa rfl ct (aa rfl ct ah)) rfl rfl rfl rfl rfl ?_;rintro g3 w3 f3;refine ak 32 _ rfl rfl rfl zf (aa rfl ct (aa rfl ct ah)) rfl rfl rfl rfl rfl ?_;rintro g4 w4 f4;refine ag ?_;have hl3:SI w3 (.slice (some ⟨g3,0,none⟩) 2 2) [0,oh s]:=kL [0,oh s] f3.blk rfl (fun x hx=>by
  simp only [List.mem_cons,List.not_mem_nil,or_false] at hx;rcases hx with rfl|rfl
  ·exact bN (by decide)
  ·exact fF _) (by simp)
 have hl4:=hl3.below f4.below;have b4:=(((hB.step b1).step b2).step f3.below).step f4.below;have hg4:=f4.at_;have hs4:=((hB.step b1).step b2).size;have hs5:=f3.below.size;have hO4:OwnS w4 32 1 (.slice (some ⟨g4,0,none⟩) 2 2) 2 [.slice CA cn cc,.slice (some ⟨g3,0,none⟩) 2 2]:=bu f4.blk rfl (by omega);refine aj rfl (f4.blk.fld (j:=1) rfl) ?_;refine aA rfl (qD hl4) ?_;rintro y w5 ⟨b5,rfl⟩;refine ag ?_;refine aI [0,1,2,8,9,10,11] rfl ?_;refine aJ [0,2] (fun x:Nat×Int×Int×Value=> [(1,none,.int .i64 x.2.1),(9,none,x.2.2.2),(10,none,.int .i64 x.2.2.1),(11,none,.int .i64 (x.1:Int))])
  (fun x W=>x.1<=p.length/\Below w.heap.size w W/\0<=x.2.1/\x.2.1<=9223372036854775807/\eB x.2.2.1/\fC x.2.2.1 x.2.1 (p.drop x.1)=fC (cB s) i p/\(∃n xs,n<=x.1+1/\OwnS W 32 1 x.2.2.2 (n+1) xs)/\ ∀q,x.2.2.2.ownBlock=some q->w.heap.size<=q) (fun x=>p.length-x.1) (0,i,cB s,.slice (some ⟨g4,0,none⟩) 2 2) ⟨ZB,b4.step b5,hi0,hi.2,fF _,rfl,⟨1,_,by omega,hO4.below b5⟩,fun q hq=>by simp [Value.ownBlock] at hq; omega⟩ ?_
 rintro ⟨k,ix,h,lv⟩ W2 ⟨hk,hbW,hx0,hx1,hhI,heq,⟨n,xs,hn,hO⟩,hq⟩;dsimp only at hk hbW hx0 hx1 hhI heq hn hO hq;refine ag ?_;refine ai rfl (fun hlt2=> ?_) (fun hge2=> ?_)
 ·dsimp only at hlt2;obtain ⟨b,hb,hbm⟩:=bD (l:=p) (k:=k) (by omega);obtain ⟨hkl,hbe⟩:=ZE hb;have hdr:p.drop k=b::p.drop (k+1):=by rw [List.drop_eq_getElem_cons hkl,hbe]
  rw [hdr] at heq;have hpW:=hp.below hbW;obtain ⟨ad,rfl⟩:=hpW.addr (by omega);have hbr:=hok b hbm;have hbI:=bN hbr;have hq0:=Int.ediv_nonneg hx0 (show (0:Int)<=2 by decide);have hq1:=Int.ediv_le_self 2 hx0;refine ag ?_;refine aj rfl (hpW.getI hb) ?_;refine ag ?_;refine ai rfl (fun hpos=> ?_) (fun hneg=> ?_)
  ·have h1:b≠ -1:=by omega
   refine ag ?_;refine aj rfl (hpW.getI hb) ?_;refine ak 3 _ rfl rfl rfl gQ (aa rfl ct (aa rfl ct (aa rfl ct ah))) rfl rfl rfl rfl rfl ?_;rintro g6 w6 f6;refine ag ?_;refine aI [0,1,2,9,10,11,12,68] rfl ?_;have b6:=hbW.step f6.below;have hp6:=hp.below b6;have hO6:=hO.below f6.below;have hg6:=f6.at_;have hL6:=pO [1,h,b] f6.blk rfl (lh (bN (by decide)) hhI hbI) (by simp);by_cases h2:ix%2=1
   ·skip
    refine ai rfl (fun h3=> ?_) (fun h3=> ?_)
    ·refine ag ?_;refine aj rfl (hp6.getI hb) ?_;refine ag ?_;refine ak 3 _ rfl rfl rfl gQ (aa rfl ct (aa rfl ct (aa rfl ct ah))) rfl rfl rfl rfl rfl ?_;rintro g7 w7 f7;refine ag ?_;have hL7:=pO [1,b,h] f7.blk rfl (lh (bN (by decide)) hbI hhI) (by simp);have hg7:=f7.at_;have hs6:=f6.below.size;have b7:=b6.step f7.below;refine ak 32 _ rfl rfl rfl zf (aa rfl ct ah) rfl rfl rfl rfl rfl ?_;rintro g8 w8 f8;refine aK [.slice (some ⟨g7,0,none⟩) 3 3] rfl rfl Eb rfl ((hO6.below f7.below).below f8.below) rfl rfl (fun j u hj=>⟨_,rfl,f8.blk.fld hj⟩) (fun u hu=>by simp at hu; subst hu; rfl) (by omega) (by omega) ?_;rintro v9 w9 hO9 hg9 hn9;refine ag ?_;have b8:=b7.step f8.below;have b9:=b8.grown hg9 b8.size hq;have q9:=pN hn9 hq b8.size;have k9:=(hL7.below f8.below).mono (bn fun k hk hlt=>hg9.block k hlt fun e=>by
      subst hk;have:=hO.lt e.symm;omega)
     refine aA rfl (qD k9) ?_;rintro y w10 ⟨b10,rfl⟩;refine ag ?_;refine aC (k+1,ix / 2,dU [1,b,h],v9) ⟨by show k+1<=p.length; omega,b9.step b10,hq0,Int.le_trans hq1 hx1,fF _,?_,⟨n+1,_,by show n+1<=k+1+1; omega,hO9.below b10⟩,q9⟩;show fC _ _ _=_;rw [<-heq,fC,if_neg h1,if_pos h2]
    ·exact absurd h2 h3
   ·skip
    refine ai rfl (fun h3=> ?_) (fun h3=> ?_)
    ·exact absurd h3 h2
    ·refine ag ?_;refine ak 32 _ rfl rfl rfl zf (aa rfl ct ah) rfl rfl rfl rfl rfl ?_;rintro g8 w8 f8;refine aK [.slice (some ⟨g6,0,none⟩) 3 3] rfl rfl Eb rfl (hO6.below f8.below) rfl rfl (fun j u hj=>⟨_,rfl,f8.blk.fld hj⟩) (fun u hu=>by simp at hu; subst hu; rfl) (by omega) (by omega) ?_;rintro v9 w9 hO9 hg9 hn9;refine ag ?_;have b8:=b6.step f8.below;have b9:=b8.grown hg9 b8.size hq;have q9:=pN hn9 hq b8.size;have k9:=(hL6.below f8.below).mono (bn fun k hk hlt=>hg9.block k hlt fun e=>by
      subst hk;have:=hO.lt e.symm;omega)
     refine aA rfl (qD k9) ?_;rintro y w10 ⟨b10,rfl⟩;refine ag ?_;refine aC (k+1,ix / 2,dU [1,h,b],v9) ⟨by show k+1<=p.length; omega,b9.step b10,hq0,Int.le_trans hq1 hx1,fF _,?_,⟨n+1,_,by show n+1<=k+1+1; omega,hO9.below b10⟩,q9⟩;show fC _ _ _=_;rw [<-heq,fC,if_neg h1,if_neg h2]
  ·have h1:b= -1:=by omega
   refine ag ?_;refine aC (k+1,ix / 2,h,lv) ⟨by show k+1<=p.length; omega,hbW,hq0,Int.le_trans hq1 hx1,hhI,?_,⟨n,xs,by show n<=k+1+1; omega,hO⟩,hq⟩;show fC _ _ _=_;rw [<-heq,fC,if_pos h1]
 ·dsimp only at hge2;obtain ⟨VA,vc,hlv,_⟩:=hO.form;subst hlv;have hdr:p.drop k= []:=List.drop_eq_nil_of_le (by omega);rw [hdr] at heq;refine ag ?_;refine jH rfl ⟨hbW,.inl ⟨hC,VA,n,vc,by rw [<-heq]; rfl⟩⟩
theorem wI {x:Int}:Gives prog 237 #[.int .i64 x] w (ZJ w (.bool (decide (iZ x)))):=by
 refine gv (f:=237) ?_;refine ag ?_;refine aW rfl ⟨ZA,?_⟩;by_cases h1:0<=x<;>by_cases h2:x<2147483647<;>simp [h1,h2]<;>omega
theorem Dp {v:Value} (h:SL bC F w v ks):Gives prog 179 #[v] w (ZJ w (.bool (dec (jE ks)))):=by
 obtain ⟨A,cap,rfl,_⟩:=h.form;have hmax:=h.len.2.2;refine gv (f:=179) ?_;refine ag ?_;refine aJ [0] (fun k:Nat=> [(3,none,.int .i64 (k:Int))])
  (fun k W=>k<=ks.length/\Below w.heap.size w W/\ ∀x∈ks.take k,iZ x) (fun k=>ks.length-k) 0 ⟨ZB,ZA,by simp⟩ ?_
 rintro k W ⟨hk,hB,hok⟩;refine ag ?_;refine ai rfl (fun hlt=> ?_) (fun hge=> ?_)
 ·obtain ⟨x,hx,hxm⟩:=bD (l:=ks) (k:=k) (by omega);have hW:=h.below hB;obtain ⟨ad,rfl⟩:=hW.addr (by omega);refine ag ?_;refine aj rfl (hW.getI hx) ?_;refine aA rfl (wI) ?_;rintro y w1 ⟨b1,rfl⟩;refine ag ?_;refine aI [0,3,15] rfl ?_;refine au rfl (fun hbad=> ?_) (fun hgood=> ?_)
  ·refine ag ?_;refine aW rfl ⟨hB.step b1,?_⟩;rw [az fun h=> ?_];have:=h.2.2 x hxm;simp at hbad;omega
  ·have hin2:iZ x:=by simpa using hgood
   refine ag ?_;refine aC (k+1) ⟨by omega,hB.step b1,fun y hy=> ?_⟩;rw [ZG,hx] at hy;rcases ZH hy with hy|hy
   ·exact hok y hy
   ·simp at hy;subst hy;exact hin2
 ·have hke:k=ks.length:=by omega
  subst hke;rw [List.take_length] at hok;refine ag ?_;refine aW rfl ⟨hB,?_⟩;by_cases h:1<=ks.length/\ks.length<=6
  ·rw [ay (p:=jE ks) ⟨h.1,h.2,hok⟩];simp;omega
  ·rw [az (p:=jE ks) fun h'=>h ⟨h'.1,h'.2.1⟩];simp;omega
structure DocV (ks:List Int) (d:Dc):Prop where
 lab:eT d.sl
 f:0<=d.fr/\d.fr<ks.length
 t:0<=d.to/\d.to<ks.length
 m:0<=d.time/\d.time<=1000000
 c:1<=d.cnt/\d.cnt<=40
 r:iZ d.root
 g:iZ d.give
 k:iZ d.take
theorem docV {d:Dc}:DocOK ks d↔jE ks/\DocV ks d :=
 ⟨fun h=>⟨h.keys,h.lab,⟨h.f0,h.f1⟩,⟨h.t0,h.t1⟩,⟨h.m0,h.m1⟩,⟨h.c0,h.c1⟩,h.r,h.g,h.k⟩,fun ⟨q,h⟩=>⟨q,h.lab,h.f.1,h.f.2,h.t.1,h.t.2,h.m.1,h.m.2,h.c.1,h.c.2,h.r,h.g,h.k⟩⟩
theorem Fp {d:Dc} (h:SL bC F w kv ks) (hsz:d.sl.size<=1000) :
  Gives prog 180 #[kv,.agg (Ej d).toArray] w (ZJ w (.bool (dec (DocV ks d)))):=by
 obtain ⟨A,cap,rfl,_⟩:=h.form;have hmax:=h.len.2.2;refine gv (f:=180) ?_;refine ag ?_;refine aG rfl rfl rfl rfl ?_;rintro g1 w1 f1;refine ag ?_;have hB1:=f1.blk;refine aj rfl (hB1.fld rfl) ?_;refine aA rfl (xU (by omega)) ?_;rintro y w2 ⟨b2,rfl⟩;have hB2:=hB1.next b2;refine ag ?_;refine aj rfl (hB2.fld (j:=1) rfl) ?_;refine ag ?_;refine aj rfl (hB2.fld (j:=1) rfl) ?_;refine ag ?_;refine aj rfl (hB2.fld (j:=2) rfl) ?_;refine ag ?_;refine aj rfl (hB2.fld (j:=2) rfl) ?_;refine ag ?_;refine aj rfl (hB2.fld (j:=3) rfl) ?_;refine ag ?_;refine aj rfl (hB2.fld (j:=3) rfl) ?_;refine ag ?_;refine aj rfl (hB2.fld (j:=4) rfl) ?_;refine ag ?_;refine aj rfl (hB2.fld (j:=4) rfl) ?_;refine ag ?_;refine aj rfl (hB2.fld (j:=5) rfl) ?_;refine aO (cap:= []) rfl rfl ie237.q rfl ct (aa rfl id ah) (fun _=>wI) ?_;rintro w3 b3;refine ag ?_;refine aj rfl ((hB2.next b3).fld (j:=6) rfl) ?_;refine aO (cap:= []) rfl rfl ie237.q rfl ct (aa rfl id ah) (fun _=>wI) ?_;rintro w4 b4;refine ag ?_;refine aj rfl (((hB2.next b3).next b4).fld (j:=7) rfl) ?_;refine aO (cap:= []) rfl rfl ie237.q rfl ct (aa rfl id ah) (fun _=>wI) ?_;rintro w5 b5;refine ag ?_;refine aW rfl ⟨(((f1.below.step b2).step b3).step b4).step b5,?_⟩
 by_cases hv:DocV ks d
 ·rw [ay hv,ay hv.lab];simp [hv.f,hv.t,hv.m,hv.c,hv.r,hv.g,hv.k]
 ·rw [az hv,Value.bool.injEq,Bool.eq_false_iff];intro hq;simp at hq;obtain ⟨⟨⟨⟨⟨⟨⟨⟨⟨⟨⟨q1,q2⟩,q3⟩,q4⟩,q5⟩,q6⟩,q7⟩,q8⟩,q9⟩,q10⟩,q11⟩,q12⟩:=hq;exact hv ⟨dec_iff.1 q1,⟨q2,q3⟩,⟨q4,q5⟩,⟨q6,q7⟩,⟨q8,q9⟩,q10,q11,q12⟩
theorem FW {d:Dc} (h:SL bC F w kv ks) (hd:DcOK d) (hsz:d.sl.size<=1000) (h0:0<=d.fr) (h1:d.fr<ks.length) :
  Gives prog 182 #[kv,.agg (Ej d).toArray] w fun u w'=>Below w.heap.size w w'/\SI w' u (fB ks d):=by
 obtain ⟨A,cap,rfl,_⟩:=h.form;obtain ⟨k,hk⟩: ∃k:Nat,d.fr=k:=⟨d.fr.toNat,by omega⟩;obtain ⟨x,hx,hxm⟩:=bD (l:=ks) (k:=k) (by omega);obtain ⟨ad,rfl⟩:=h.addr (by omega);have hxI:=h.rngI hx;refine gv (f:=182) ?_;refine ag ?_;refine aG rfl rfl rfl rfl ?_;rintro g1 w1 f1;refine ag ?_;refine bg mixed (by kernel_rfl) ?_;refine aZ ?_;have hB1:=f1.blk;have h1':=h.below f1.below;have hget:=h1'.getI hx;rw [<-hk] at hget;refine aB rfl (hB1.fld rfl) ?_;refine aZ ?_;refine aB rfl hget ?_;refine aZ ?_;refine aB rfl (hB1.fld rfl) ?_;refine fE (.ex (.int .i64 (oh d.sl))) trivial rfl (fun _ w' hb'=>xV (by omega)) ?_;refine aZ ?_;refine aB rfl (hB1.fld rfl) ?_;refine aZ ?_;refine aB rfl (hB1.fld rfl) ?_;refine aZ ?_;refine aB rfl (hB1.fld rfl) ?_;refine aZ ?_;refine aB rfl (hB1.fld rfl) ?_;refine aZ ?_;refine aB rfl (hB1.fld rfl) ?_;refine cK 3 _ rfl rfl rfl gQ (ax rfl id (ax rfl id (ax rfl id (ax rfl id (ax rfl id (ax rfl id (ax rfl id aP))))))) rfl rfl rfl rfl rfl ?_;refine fP rfl rfl rfl ct (Lies.mono _ _ _) ?_;refine dD (ii [0,1,3] [(0,_,_),(1,_,_),(3,_,_)] rfl [4] rfl fun vs w3 b3 hs3=>aD ?_);obtain ⟨v4,rfl,h4⟩:=Sats.one hs3;refine pg ?_;obtain ⟨g4,rfl,hB4⟩:=h4;refine aW rfl ⟨f1.below.step b3,?_⟩
 have e:fB ks d= [x,oh d.sl,d.fr,d.to,d.time,d.cnt,d.root]:=by
  unfold fB;rw [List.getD_eq_getElem?_getD,show d.fr.toNat=k by omega,hx];rfl
 rw [e];refine kL _ hB4 rfl (fun y hy=> ?_) (by simp);simp only [List.mem_cons,List.not_mem_nil,or_false] at hy;rcases hy with rfl|rfl|rfl|rfl|rfl|rfl|rfl
 ·exact hxI
 ·exact fF _
 ·exact hd.f
 ·exact hd.t
 ·exact hd.m
 ·exact hd.c
 ·exact hd.r
theorem Dk {d:Dc} (h:SL bC F w kv ks) (hd:DcOK d) (h0:0<=d.to) (h1:d.to<ks.length) :
  Gives prog 183 #[kv,.agg (Ej d).toArray] w fun u w'=>Below w.heap.size w w'/\SI w' u (fG ks d):=by
 obtain ⟨A,cap,rfl,_⟩:=h.form;obtain ⟨k,hk⟩: ∃k:Nat,d.to=k:=⟨d.to.toNat,by omega⟩;obtain ⟨x,hx,hxm⟩:=bD (l:=ks) (k:=k) (by omega);obtain ⟨ad,rfl⟩:=h.addr (by omega);have hxI:=h.rngI hx;refine gv (f:=183) ?_;refine ag ?_;refine aG rfl rfl rfl rfl ?_;rintro g1 w1 f1;refine ag ?_;refine aI [0,1,3,4] rfl ?_;refine bg mixed (by kernel_rfl) ?_;refine aZ ?_;have hB1:=f1.blk;have h1':=h.below f1.below;have hget:=h1'.getI hx;rw [<-hk] at hget;refine aB rfl (hB1.fld rfl) ?_;refine aZ ?_;refine aB rfl hget ?_;refine aZ ?_;refine aB rfl (hB1.fld rfl) ?_;refine cK 3 _ rfl rfl rfl gQ (ax rfl id (ax rfl id aP)) rfl rfl rfl rfl rfl ?_;refine fP rfl rfl rfl ct (Lies.mono _ _ _) ?_;refine dD (ii [0,1,3] [(0,_,_),(1,_,_),(3,_,_)] rfl [4] rfl fun vs w3 b3 hs3=>aD ?_);obtain ⟨v4,rfl,h4⟩:=Sats.one hs3;refine pg ?_;obtain ⟨g4,rfl,hB4⟩:=h4;refine aW rfl ⟨f1.below.step b3,?_⟩;have e:fG ks d= [x,d.give]:=by
  unfold fG;rw [List.getD_eq_getElem?_getD,show d.to.toNat=k by omega,hx];rfl
 rw [e];refine kL _ hB4 rfl (fun y hy=> ?_) (by simp);simp only [List.mem_cons,List.not_mem_nil,or_false] at hy;rcases hy with rfl|rfl
 ·exact hxI
 ·exact hd.g
noncomputable def Er (ks:List Int) (d:Dc):Int:=open Classical in if¬DocOK ks d then 1 else if¬kX ks d then 330 else 0
theorem Ai {d:Dc} (h:SL bC F w kv ks) (hd:DcOK d) (hsz:d.sl.size<=1000) :
  Gives prog 105 #[kv,.agg (Ej d).toArray] w (ZJ w (.int .i64 (Er ks d))):=by
 obtain ⟨A,cap,rfl,_⟩:=h.form;refine gv (f:=105) ?_;refine ag ?_;refine aG rfl rfl rfl rfl ?_;rintro g1 w1 f1;refine ag ?_;have hB1:=f1.blk;refine aA rfl (Dp (h.below f1.below)) ?_;rintro y w2 ⟨b2,rfl⟩;have q2:=f1.below.step b2;refine ag ?_;refine aF rfl (fun _ _ hv=>(hB1.next b2).fld hv) ?_;refine aO (cap:= []) rfl rfl ie180.q rfl ct (aa rfl id (aa rfl id ah)) (fun _=>Fp (d:=d) (h.below q2) hsz) ?_;rintro w3 b3;refine ag ?_;refine aI [0,1,3,4,13] rfl ?_;have q3:=q2.step b3;have hB3:=hB1.next (b2.step b3);refine au rfl (fun hbad=> ?_) (fun hgood=> ?_)
 ·refine ag ?_;refine aW rfl ⟨q3,?_⟩;unfold Er;rw [if_pos fun hk=> ?_];rw [ay (docV.1 hk).1,ay (docV.1 hk).2] at hbad;simp at hbad
 ·have hk:DocOK ks d:=docV.2 (by
   cases q1:dec (jE ks) with
   | false=>rw [q1] at hgood; simp at hgood
   | true =>
    cases q2:dec (DocV ks d) with
    | false=>rw [q1,q2] at hgood; simp at hgood
    | true=>exact ⟨dec_iff.1 q1,dec_iff.1 q2⟩)
  have h3:=h.below q3;refine ag ?_;refine bg mixed (by kernel_rfl) ?_;refine aZ ?_;refine aB rfl (hB3.fld rfl) ?_;refine aZ ?_;refine dx rfl (fun _ _ hv=>hB3.fld hv) ?_;refine fE (.pr (fun u W=>SI W u (fB ks d))) ?_ rfl (fun _ w' hb'=>FW (h3.below hb') hd hsz hk.f0 hk.f1) ?_
  ·exact fun _ _ _ hb h=>h.step dV hb
  refine iR (.ex (.int .i64 (dU (fB ks d)))) (trivial) rfl rfl ie181.q rfl ct (bJ rfl ct fK) (fun _ w' hb' vs hs=> ?_) ?_
  ·obtain ⟨u,rfl,hu⟩:=Sats.one hs;exact qD (show SI w' u (fB ks d) from hu)
  refine aZ ?_;refine aB rfl (hB3.fld rfl) ?_;refine aZ ?_;refine dx rfl (fun _ _ hv=>hB3.fld hv) ?_;refine dw (.pr (fun u W=>SI W u (fG ks d))) ?_ rfl rfl ie183.q rfl ct (ax rfl id (ax rfl id aP)) (fun _ w' hb'=>Dk (h3.below hb') hd hk.t0 hk.t1) ?_
  ·exact fun _ _ _ hb h=>h.step dV hb
  refine iR (.ex (.int .i64 (dU (fG ks d)))) (trivial) rfl rfl ie181.q rfl ct (bJ rfl id fK) (fun _ w' hb' vs hs=> ?_) ?_
  ·obtain ⟨u,rfl,hu⟩:=Sats.one hs;exact qD (show SI w' u (fG ks d) from hu)
  refine aZ ?_;refine bR [0,1,3,4,29] rfl fun w4 b4=> ?_;refine aD ?_;refine au rfl (fun hno=> ?_) (fun hyes=> ?_)
  ·refine ag ?_;refine aW rfl ⟨q3.step b4,?_⟩;unfold Er;rw [if_neg (not_not_intro hk),if_pos fun hs=> ?_];simp [<-hs.1,<-hs.2] at hno
  ·refine ag ?_;refine aW rfl ⟨q3.step b4,?_⟩;unfold Er;simp at hyes;rw [if_neg (not_not_intro hk),if_neg (not_not_intro ⟨hyes.1,hyes.2⟩)]
theorem Di {pv:Value} {p:Pp} {G:Nat->Prop} (h:SL bC F w kv ks) (hp:SL bC G w pv p.path) (hd:DcOK p.doc) (hi:eB p.idx) (hsz:p.doc.sl.size<=1000) (hls:p.label.size<=1000) :
  Gives prog 56 #[kv,.agg (Ak p pv).toArray] w (ZJ w (.int .i64 (sO ks p))):=by
 obtain ⟨A,cap,rfl,_⟩:=h.form;obtain ⟨PA,pc,rfl,_⟩:=hp.form;refine gv (f:=56) ?_;refine ag ?_;refine aG rfl rfl rfl rfl ?_;rintro g1 w1 f1;refine ag ?_;have hB1:=f1.blk;refine aF rfl (fun j u hj=>lN hB1 0 (Ej p.doc) _ rfl j u hj) ?_;refine aA rfl (Ai (d:=p.doc) (h.below f1.below) hd hsz) ?_;rintro y w2 ⟨b2,rfl⟩;have q2:=f1.below.step b2;have hB2:=hB1.next b2;refine ag ?_;refine ai rfl (fun hbad=> ?_) (fun hgood=> ?_)
 ·refine ag ?_;refine aW rfl ⟨q2,?_⟩;unfold Er at hbad ⊢;unfold sO
  split
  ·rfl
  ·rw [if_neg (by assumption)] at hbad
   split
   ·rfl
   ·rw [if_neg (by assumption)] at hbad;exact absurd rfl hbad
 ·have hk:DocOK ks p.doc/\kX ks p.doc:=by
   unfold Er at hgood
   split at hgood
   ·exact absurd hgood (by decide)
   ·split at hgood
    ·exact absurd hgood (by decide)
    ·exact ⟨Classical.not_not.1 (by assumption),Classical.not_not.1 (by assumption)⟩
  unfold sO;rw [if_neg (not_not_intro hk.1),if_neg (not_not_intro hk.2)];refine ag ?_;refine aj rfl (hB2.fld (j:=8) rfl) ?_;refine aA rfl (xU (by omega)) ?_;rintro y w3 ⟨b3,rfl⟩;have q3:=q2.step b3;have hB3:=hB2.next b3;refine ag ?_;refine aj rfl (hB3.fld (j:=9) rfl) ?_;refine ag ?_;refine aj rfl (hB3.fld (j:=9) rfl) ?_;refine ag ?_;refine aj rfl (hB3.fld (j:=4) rfl) ?_;refine ag ?_;refine aI [0,1,3,4,5,33] rfl ?_;refine au rfl (fun hno=> ?_) (fun hyes=> ?_)
  ·refine ag ?_;refine aW rfl ⟨q3,?_⟩;rw [if_pos fun hq=> ?_];obtain ⟨a1,a2,a3⟩:=hq;rw [ay a1] at hno;simp at hno;omega
  ·have hpl:kR p:=by
    cases q1:dec (eT p.label) with
    | false=>rw [q1] at hyes; simp at hyes
    | true =>
     rw [q1] at hyes;simp at hyes;exact ⟨dec_iff.1 q1,by omega,by omega⟩
   rw [if_neg (not_not_intro hpl)];refine ag ?_;refine aj rfl (hB3.fld (j:=8) rfl) ?_;refine ag ?_;refine aj rfl (hB3.fld (j:=9) rfl) ?_;refine ag ?_;refine aj rfl (hB3.fld (j:=10) rfl) ?_;refine aA rfl (Gb (hp.below q3) (by omega) hi) ?_;rintro y w4 ⟨b4,h4⟩;have q4:=q3.step b4;have hB4:=hB3.next b4;rcases h4 with ⟨hc,CA,n,c,rfl⟩|⟨hc,rfl⟩
   ·skip
    refine ag ?_;refine aj rfl (hB4.fld (j:=5) rfl) ?_;refine ag ?_;refine aI [0,1,3,4,5,6,7,55] rfl ?_;refine au rfl (fun hdif=> ?_) (fun hsame=> ?_)
    ·refine ag ?_;refine aW rfl ⟨q4,?_⟩;rw [if_pos fun hq=> ?_];simp [hq.2] at hdif;omega
    ·refine ag ?_;refine aW rfl ⟨q4,?_⟩;simp at hsame;rw [if_neg (not_not_intro ⟨hc,hsame.2⟩)]
   ·skip
    refine ag ?_;refine aj rfl (hB4.fld (j:=5) rfl) ?_;refine ag ?_;refine aI [0,1,3,4,5,6,7,55] rfl ?_;refine au rfl (fun hdif=> ?_) (fun hsame=> ?_)
    ·refine ag ?_;refine aW rfl ⟨q4,?_⟩;rw [if_pos fun hq=>hc hq.1]
    ·simp at hsame
theorem BE {α:Type} {l:List α} {i:Nat} {x:α} (h:l[i]?=some x) {p:α->Bool}:(l.take (i+1)).any p=((l.take i).any p||p x):=by
 rw [ZG,h,List.any_append];simp
theorem FP {s:qR} (hN:dI w v N) (hfw:FewN N):Gives prog 50 #[.agg v.cells.toArray,.agg (zY s).toArray] w (ZJ w (.int .i64 (iJ N s))):=by
 have hform:=NetIn.form hN;obtain ⟨vc,vn,vo,vf,vl,vk⟩:=v;obtain ⟨⟨A1,c1,e1⟩,⟨A2,c2,e2⟩,⟨A3,c3,e3⟩,⟨A4,c4,e4⟩,⟨A5,c5,e5⟩,⟨A6,c6,e6⟩⟩:=id hform;dsimp only at e1 e2 e3 e4 e5 e6;subst e1 e2 e3 e4 e5 e6;have hmax:=hfw.f;have hmax5:=hfw.l;refine gv (f:=50) ?_;refine ag ?_;refine aG rfl rfl rfl rfl ?_;rintro g2 w1 f1;refine aG rfl rfl rfl rfl ?_;rintro g3 w2 f2;refine ag ?_;have b2:=f1.below.step f2.below;have hV2:=f1.blk.next f2.below;have hC2:=f2.blk;have hN2:=aL hN b2;refine aF rfl (fun _ _ hv=>hV2.fld hv) ?_;refine aA rfl (vS (v:=⟨.slice A1 N.cals.length c1,.slice A2 N.names.length c2,.slice A3 N.ops.length c3,.slice A4 N.offs.length c4,.slice A5 N.lines.length c5,.slice A6 N.classes.length c6⟩) hN2 hfw) ?_;rintro y3 w3 ⟨d3,rfl⟩;have b3:=b2.step d3;have hV3:=hV2.next d3;have hC3:=hC2.next d3;have hN3:=aL hN2 d3;refine ag ?_;refine au rfl (fun hbad=> ?_) (fun hgood=> ?_)
 ·refine ag ?_;refine aW rfl ⟨b3,?_⟩;unfold iJ;rw [show dec (ConsOK keys11 N)=false by simpa using hbad];rfl
 have hc:ConsOK keys11 N:=dec_iff.1 (by simpa using hgood);have hown:iJ N s=if s.2= -1/\0<=s.1/\s.1<N.offs.length then (N.offs[s.1.toNat]?.map (·.op)).getD 0
   else if s.1= -1/\0<=s.2/\s.2<N.lines.length then ((N.lines[s.2.toNat]?.bind fun l=>N.offs[l.frm.toNat]?).map (·.op)).getD 0 else -1:=by
  unfold iJ;rw [ay hc,if_neg (by simp)]
 rw [hown];refine ag ?_;refine aj rfl (hC3.fld (j:=1) rfl) ?_;refine ag ?_;refine aj rfl (hC3.fld (j:=0) rfl) ?_;refine ag ?_;refine aj rfl (hV3.fld (j:=3) rfl) ?_;refine ag ?_;refine aO (cap:= []) rfl rfl ie104.q rfl ct (aa rfl id (aa rfl ct (aa rfl id ah))) (fun _=>dY) ?_;rintro w4 b4;refine ag ?_;refine aI [0,1,2,3,4,19] rfl ?_;have hV4:=hV3.next b4;have hC4:=hC3.next b4;have hN4:=aL hN3 b4;refine au rfl (fun h1=> ?_) (fun h2=> ?_)
 ·have h1':s.2= -1/\0<=s.1/\s.1<N.offs.length:=by simp at h1; omega
  rw [if_pos h1'];obtain ⟨o,ho,hom⟩:=bD (l:=N.offs) (k:=s.1.toNat) (by omega);have hf:=hN4.f;obtain ⟨ad,rfl⟩: ∃ad,A4=some ad:=hf.addr (by omega);obtain ⟨ov,hcells⟩:=OFs.get hf ho;rw [show ((s.1.toNat:Nat):Int)=s.1 by omega] at hcells;refine ag ?_;refine aj rfl (hV4.fld (j:=3) rfl) ?_;refine ag ?_;refine aj rfl (hC4.fld (j:=0) rfl) ?_;refine ag ?_;refine aj rfl (hcells 1 _ rfl) ?_;refine ag ?_;refine aW rfl ⟨b3.step b4,by rw [ho]; rfl⟩
 ·have h2': ¬(s.2= -1/\0<=s.1/\s.1<N.offs.length):=by simp at h2; omega
  rw [if_neg h2'];refine ag ?_;refine aj rfl (hC4.fld (j:=0) rfl) ?_;refine ag ?_;refine aj rfl (hC4.fld (j:=1) rfl) ?_;refine ag ?_;refine aj rfl (hV4.fld (j:=4) rfl) ?_;refine ag ?_;refine aO (cap:= []) rfl rfl ie104.q rfl ct (aa rfl id (aa rfl ct (aa rfl id ah))) (fun _=>dY) ?_;rintro w5 b5;refine ag ?_;refine aI [0,1,2,3,4,38] rfl ?_;have hV5:=hV4.next b5;have hC5:=hC4.next b5;have hN5:=aL hN4 b5;refine au rfl (fun h3=> ?_) (fun h4=> ?_)
  ·have h3':s.1= -1/\0<=s.2/\s.2<N.lines.length:=by simp at h3; omega
   rw [if_pos h3'];obtain ⟨l,hl,hlm⟩:=bD (l:=N.lines) (k:=s.2.toNat) (by omega);have hg:=hc.lines.good l hlm;have g1:=hg.f1;have g2:=hg.f2;obtain ⟨o,ho,hom⟩:=bD (l:=N.offs) (k:=l.frm.toNat) (by omega);have hf:=hN5.f;have hll:=hN5.l;obtain ⟨ad,rfl⟩: ∃ad,A4=some ad:=hf.addr (by omega);obtain ⟨ae,rfl⟩: ∃ae,A5=some ae:=hll.addr (by omega);obtain ⟨ov,hcells⟩:=OFs.get hf ho;have hlc:=LIs.get hll hl;rw [show ((s.2.toNat:Nat):Int)=s.2 by omega] at hlc;rw [show ((l.frm.toNat:Nat):Int)=l.frm by omega] at hcells;refine cO ?_;refine bg mixed (by kernel_rfl) ?_;refine aZ ?_;refine aB rfl (hV5.fld (j:=3) rfl) ?_;refine aZ ?_;refine aB rfl (hV5.fld (j:=4) rfl) ?_;refine aZ ?_;refine aB rfl (hC5.fld (j:=1) rfl) ?_;refine aZ ?_;refine aB rfl (hlc 1 _ rfl) ?_;refine aZ ?_;refine aB rfl (hcells 1 _ rfl) ?_;refine aZ ?_;refine bR [0,1,2,3,4] rfl fun w6 b6=> ?_;refine ag ?_;refine aW rfl ⟨(b3.step b4).step (b5.step b6),?_⟩;rw [hl];dsimp only [Option.bind_some];rw [ho];rfl
  ·have h4': ¬(s.1= -1/\0<=s.2/\s.2<N.lines.length):=by simp at h4; omega
   rw [if_neg h4'];refine ag ?_;refine aW rfl ⟨(b3.step b4).step b5,rfl⟩
theorem tu (hN:dI w v N) (hfw:FewN N) (hd:SD w dv d) (hl:SE w lv l) (hS:SD w wv ws) :
  Gives prog 17 #[.agg v.cells.toArray,dv,lv,wv,.int .i64 t] w fun u w'=>Below w.heap.size w w'/\SI w' u (gX N d l ws t):=by
 have hops:=hfw.o;have hone: ∃A3 c3,v.cells[2]?=some (.slice A3 N.ops.length c3):=by
  have hform:=NetIn.form hN;obtain ⟨vc,vn,vo,vf,vl,vk⟩:=v;obtain ⟨⟨A1,c1,e1⟩,⟨A2,c2,e2⟩,⟨A3,c3,e3⟩,⟨A4,c4,e4⟩,⟨A5,c5,e5⟩,⟨A6,c6,e6⟩⟩:=id hform;dsimp only at e3;subst e3;exact ⟨A3,c3,rfl⟩
 obtain ⟨A3,c3,hV2⟩:=hone;refine gv (f:=17) ?_;refine ag ?_;refine aG rfl rfl rfl rfl ?_;rintro g5 w1 f1;refine ag ?_;have hB1:=f1.blk;refine aF rfl (fun _ _ hv=>hB1.fld hv) ?_;refine ag ?_;refine aA rfl (xR (aL hN f1.below) hfw (aU hd f1.below) (aY hl f1.below) (aU hS f1.below)) ?_;rintro y w2 ⟨b2,hP⟩;have c2:=f1.below.step b2;have hB2:=hB1.next b2;have hN2:=aL hN c2;obtain ⟨P,hPe⟩: ∃P,P=ig N d l ws t:=⟨_,rfl⟩;have hhold:gX N d l ws t=((List.range N.ops.length).map fun i:Nat=>(i:Int)).filter fun o=>P.any fun s=>decide (iJ N s=o):=by rw [hPe]; rfl
 have hpl:P.length<=52:=by rw [hPe]; exact yf
 rw [<-hPe] at hP;rw [hhold];obtain ⟨PA,pcap,rfl,_⟩:=SL.form hP;refine ag ?_;refine aJ [5,11] (fun x:Nat×Value×List Int=> [(12,none,x.2.1),(13,none,.int .i64 (x.1:Int))])
  (fun x W=>x.1<=N.ops.length/\Below w2.heap.size w2 W/\OwnS W 3 1 x.2.1 x.2.2.length (x.2.2.map (Value.int .i64))/\x.2.2.length<=x.1/\x.2.2=((List.range x.1).map fun i:Nat=>(i:Int)).filter (fun o=>P.any fun s=>decide (iJ N s=o))/\ ∀q,x.2.1.ownBlock=some q->w2.heap.size<=q) (fun x=>N.ops.length-x.1) (0,.slice none 0 0,[]) ⟨ZB,ZA,OwnS.nil _ _ _,ZC,rfl,fun q hq=>by simp [Value.ownBlock] at hq⟩ ?_
 rintro ⟨i,rv,R⟩ W ⟨hi,hB,hO,hRl,hR,hq⟩;dsimp only at hi hB hO hRl hR hq;have hBW:=hB2.next hB;refine ag ?_;refine aj rfl (hBW.fld hV2) ?_;refine ag ?_;refine aI [5,11,12,13,26] rfl ?_;refine ai rfl (fun hlt=> ?_) (fun hge=> ?_)
 ·dsimp only at hlt;have hnext:((List.range (i+1)).map fun i:Nat=>(i:Int)).filter (fun o=>P.any fun s=>decide (iJ N s=o))=R++if P.any (fun s=>decide (iJ N s=(i:Int))) then [(i:Int)] else []:=by
   rw [hR,List.range_succ,List.map_append,List.filter_append];cases hq:P.any (fun s=>decide (iJ N s=(i:Int)))<;>simp [List.filter,hq]
  refine ag ?_;refine aJ [5,11,12,13] (fun j:Nat=> [(14,none,.bool ((P.take j).any fun s=>decide (iJ N s=(i:Int)))),(15,none,.int .i64 (j:Int))])
   (fun j W2=>j<=P.length/\Below W.heap.size W W2) (fun j=>P.length-j) 0 ⟨ZB,ZA⟩ ?_
  rintro j W2 ⟨hj,hB2'⟩;have bW2:=hB.step hB2';have hBW2:=hBW.next hB2';have hPW:=E6 hP bW2;refine ag ?_;refine ai rfl (fun hlt2=> ?_) (fun hge2=> ?_)
  ·obtain ⟨s,hs,hsm⟩:=bD (l:=P) (k:=j) (by omega);obtain ⟨ad,rfl⟩:=hPW.addr (by omega);have hcx:=(SPs.get hPW hs).1;refine ag ?_;refine bg mixed (by kernel_rfl) ?_;refine aZ ?_;refine dx rfl (fun _ _ hv=>hBW2.fld hv) ?_;refine aZ ?_;refine dx rfl (fun j u hj=>hcx j u hj) ?_;refine dw (.ex (.int .i64 (iJ N s))) trivial rfl rfl ie50.q rfl ct (ax rfl id (ax rfl id aP)) (fun _ w' hb'=>FP (aL (aL hN2 bW2) hb') hfw) ?_;refine aZ ?_;refine bR [5,11,12,13,14,15] rfl fun w3 b3=> ?_;refine ag ?_;refine aC (j+1) ⟨by omega,hB2'.step b3⟩ (hp:= ?_);rw [BE hs];rfl
  ·have hje:j=P.length:=by omega
   subst hje;rw [List.take_length];refine ag ?_;refine au rfl (fun hyes=> ?_) (fun hno=> ?_)
   ·refine ag ?_;refine ak 3 _ rfl rfl rfl gQ (aa rfl ct ah) rfl rfl rfl rfl rfl ?_;rintro g7 w7 f7;have hB7:=bW2.step f7.below;refine aK [.int .i64 (i:Int)] rfl rfl lF rfl ((hO.below hB2').below f7.below) rfl rfl (fun j u hj=>⟨_,rfl,f7.blk.fld hj⟩) (fun u hu=>by simp at hu; subst hu; rfl) (by omega) (by omega) ?_;rintro v8 w8 hO8 hg8 hn8;refine ag ?_;refine aC (i+1,v8,R++ [(i:Int)]) ⟨by show i+1<=N.ops.length; omega,hB7.grown hg8 hB7.size hq,?_,by show (R++ [(i:Int)]).length<=i+1; simp; omega,?_,pN hn8 hq hB7.size⟩
    ·show OwnS w8 _ 1 v8 (R++ [(i:Int)]).length ((R++ [(i:Int)]).map _);rw [List.map_append,List.length_append];exact hO8
    ·show R++ [(i:Int)]=_;rw [hnext,if_pos hyes]
   ·refine ag ?_;refine aC (i+1,rv,R) ⟨by show i+1<=N.ops.length; omega,bW2,hO.below hB2',by show R.length<=i+1; omega,?_,hq⟩;show R=_;rw [hnext,if_neg (by rw [hno]; decide),List.append_nil]
 ·have hie:i=N.ops.length:=by
   dsimp only at hge;omega
  subst hie;rw [<-hR];refine ag ?_;refine aW rfl ⟨c2.step hB,?_⟩;refine dz hO (fun x hx=> ?_) (fun q hq=>hO.lt hq) (by omega);rw [hR] at hx;obtain ⟨k,hk,rfl⟩:=List.mem_map.1 (List.mem_filter.1 hx).1;have:=List.mem_range.1 hk;exact ⟨by omega,by omega⟩
theorem tC (hk:SL bC F w kv ks) (hps:SPp w psv ps) (hF:FewK ks ps) :
  Gives prog 19 #[kv,psv,.string lab,.int .i64 op,.int .i64 t] w (ZJ w (.bool (dec (sM ks ps lab op t)))):=by
 obtain ⟨KA,kc,rfl,_⟩:=hk.form;obtain ⟨A,cap,rfl,_⟩:=hps.form;have h12:=hF.p;refine gv (f:=19) ?_;refine ag ?_;refine ai rfl (fun hbig=> ?_) (fun hsmall=> ?_)
 ·exact absurd hbig (by omega)
 refine ag ?_;refine aJ [0,1,2,3,4] (fun i:Nat=> [(11,none,.int .i64 (i:Int))])
  (fun i W=>i<=ps.length/\Below w.heap.size w W/\ ∀p∈ps.take i,¬uK ks lab op t p) (fun i=>ps.length-i) 0 ⟨ZB,ZA,by simp⟩ ?_
 rintro i W ⟨hi,hB,hno⟩;refine ag ?_;refine ai rfl (fun hlt=> ?_) (fun hge=> ?_)
 ·obtain ⟨p,hp,hpm⟩:=bD (l:=ps) (k:=i) (by omega);have hW:=fq hps hB;obtain ⟨ad,rfl⟩:=hW.addr (by omega);obtain ⟨pv,hcells,hd,hix,hpath⟩:=SPp.get hW hp;obtain ⟨PA,pc,rfl,_⟩:=hpath.form;have hsz:=hF.each p hpm;refine ag ?_;refine aF rfl (fun j u hj=>hcells j u hj) ?_;refine aM rfl KS rfl is67.q rfl rfl ?_;rintro g12 w2 f2;refine ag ?_;have hB2:=f2.blk;have b2:=hB.step f2.below;refine aj rfl (hB2.fld (j:=8) rfl) ?_;refine ag ?_;refine aj rfl (hB2.fld (j:=1) rfl) ?_;refine ag ?_;refine aj rfl (hB2.fld (j:=2) rfl) ?_;refine ag ?_;refine aj rfl (hB2.fld (j:=3) rfl) ?_;refine ag ?_;refine aF rfl (fun _ _ hv=>hB2.fld hv) ?_;refine aO (cap:= []) rfl rfl ie56.q rfl ct (aa rfl id (aa rfl id ah)) (fun _=>Di (hk.below b2) (hpath.below f2.below) hd hix (by omega) (by omega)) ?_;rintro w3 c3;refine ag ?_;refine aI [0,1,2,3,4,11,12,56] rfl ?_;have b3:=b2.step c3;rw [uu];refine au rfl (fun hyes=> ?_) (fun hnot=> ?_)
  ·refine ag ?_;refine aW rfl ⟨b3,?_⟩;simp at hyes;obtain ⟨⟨⟨⟨q1,q2⟩,q3⟩,q4⟩,q5⟩:=hyes;rw [ay ⟨by omega,p,hpm,q1,q2,q3,by omega,q5⟩]
  ·have hnf: ¬uK ks lab op t p:=fun hf=>by
    obtain ⟨f1,f2,f3,f4,f5⟩:=hf;simp [f1,f2,f3,f4,f5] at hnot
   refine ag ?_;refine aC (i+1) ⟨by omega,b3,fun q hq=> ?_⟩;rw [ZG,hp] at hq;rcases ZH hq with hq|hq
   ·exact hno q hq
   ·simp at hq;subst hq;exact hnf
 ·refine ag ?_;refine aW rfl ⟨hB,?_⟩;rw [List.take_of_length_le (by omega)] at hno;rw [az];rintro ⟨_,p,hpm,hf⟩;exact hno p hpm hf
theorem Dv (hN:dI w v N) (hfw:FewN N) (hd:SD w dv d) (hl:SE w lv l) (hS:SD w wv ws) (hk:SL bC F w kv ks) (hps:SPp w psv ps) (hFk:FewK ks ps) (hsm:l.length<=1000000) (hcI:ClI c) :
  Gives prog 14 #[.agg v.cells.toArray,dv,lv,wv,kv,psv,.agg (Ih c).toArray] w (ZJ w (.tuple #[.agg #[.int .i64 (iG N d l ws ks ps c).1.1,.int .i64 (iG N d l ws ks ps c).1.2],.int .i64 (iG N d l ws ks ps c).2])):=by
 have hone: ∃A4 c4,v.cells[3]?=some (.slice A4 N.offs.length c4):=by
  have hform:=NetIn.form hN;obtain ⟨vc,vn,vo,vf,vl,vk⟩:=v;obtain ⟨⟨A1,c1,e1⟩,⟨A2,c2,e2⟩,⟨A3,c3,e3⟩,⟨A4,c4,e4⟩,⟨A5,c5,e5⟩,⟨A6,c6,e6⟩⟩:=id hform;dsimp only at e4;subst e4;exact ⟨A4,c4,rfl⟩
 obtain ⟨A4,c4,hV3⟩:=hone;obtain ⟨DA,dc,rfl,_⟩:=hd.form;obtain ⟨WA,wc,rfl,_⟩:=hS.form;obtain ⟨PA,pc,rfl,_⟩:=hps.form;have m1:=hd.len.2.2;have m3:=hS.len.2.2;have m4:=hfw.f;have m5:=hFk.p;refine gv (f:=14) ?_;refine ag ?_;refine aG rfl rfl rfl rfl ?_;rintro g7 w1 f1;refine aG rfl rfl rfl rfl ?_;rintro g13 w2 f2;refine dC rfl rfl uP ?_;rintro g14 w3 f3;refine ag ?_;have b3:=f1.below.step (f2.below.step f3.below);have hB3:=f1.blk.next (f2.below.step f3.below);have hC3:=f2.blk.next f3.below;have hR3:=f3.blk;have q14:=f3.at_;have s2:w.heap.size<=w2.heap.size:=(f1.below.step f2.below).size;refine aF rfl (fun _ _ hv=>hB3.fld hv) ?_;refine aA rfl (xP (aL hN b3) hfw) ?_;rintro y w4 ⟨d4,rfl⟩;have b4:=b3.step d4;refine ag ?_;refine aO (cap:= []) rfl rfl ie44.q rfl ct (aa rfl id (aa rfl id (aa rfl id ah))) (fun _=>oL (aU hd b4) (aY hl b4)) ?_;rintro w5 d5;refine ag ?_;have b5:=b4.step d5;have d35:=d4.step d5;refine aj rfl ((hB3.next d35).fld hV3) ?_;refine ag ?_;refine aF rfl (fun _ _ hv=>(hB3.next d35).fld hv) ?_;refine aF rfl (fun _ _ hv=>(hC3.next d35).fld hv) ?_;refine aO (cap:= []) rfl rfl ie45.q rfl ct (aa rfl id (aa rfl id ah)) (fun _=>Gc (c:=c) (aL hN b5)) ?_;rintro w6 d6;refine ag ?_
 refine aI [0,1,2,3,4,5,6,7,13,14,15,42] rfl ?_;have b6:=b5.step d6;have d36:=d35.step d6;have hB6:=hB3.next d36;have hC6:=hC3.next d36;have hR6:=hR3.next d36;refine au rfl (fun hbad=> ?_) (fun hgood=> ?_)
 ·refine ag ?_;refine aH [] _ [.int .i64 0,.int .i64 0] rfl rfl rfl ah (by kernel_rfl) ?_;refine aQ rfl rfl rfl hR6 is42.q rfl rfl rfl ?_;rintro wr hBr hbutr hszr;refine ag ?_;refine ik results14 underlying42 (by exact is42.q) rfl rfl hBr ⟨b6.grown hbutr b6.size (fun q hq=>by cases hq; omega),?_⟩;rw [show iG N d l ws ks ps c=((0,0),1) from ?_];unfold iG;rw [if_pos (az fun h=> ?_)];rw [ay h.sound,ay h.fit,ay h.claim] at hbad;have:=h.same;simp at hbad;omega
 have hDc:DecOK N d l ws.length c:=by
  cases h1:dec (SoundOK keys11 N) with
  | false=>rw [h1] at hgood; simp at hgood
  | true =>
   cases h2:dec (FitW d l ws.length) with
   | false=>rw [h1,h2] at hgood; simp at hgood
   | true =>
    cases h3:dec (ClOK N c) with
    | false=>rw [h1,h2,h3] at hgood; simp at hgood
    | true =>
     rw [h1,h2,h3] at hgood;simp at hgood;exact ⟨dec_iff.1 h1,dec_iff.1 h2,by omega,dec_iff.1 h3⟩
 have hD:=ay hDc;refine ag ?_;refine ai rfl (fun hmany=> ?_) (fun hfew=> ?_)
 ·exact absurd hmany (by omega)
 refine ag ?_;refine ai rfl (fun hno=> ?_) (fun hsome=> ?_)
 ·refine ag ?_;refine aH [] _ [.int .i64 0,.int .i64 0] rfl rfl rfl ah (by kernel_rfl) ?_;refine aQ rfl rfl rfl hR6 is42.q rfl rfl rfl ?_;rintro wr hBr hbutr hszr;refine ag ?_;refine ik results14 underlying42 (by exact is42.q) rfl rfl hBr ⟨b6.grown hbutr b6.size (fun q hq=>by cases hq; omega),?_⟩;rw [show iG N d l ws ks ps c=((0,0),280) by unfold iG; rw [if_neg (by rw [hD]; simp),if_neg (by omega),if_pos (List.eq_nil_of_length_eq_zero (by omega))]]
 have hds:iG N d l ws ks ps c=(oK N d l ws ks ps c,0):=by
  unfold iG;rw [if_neg (by rw [hD]; simp),if_neg (by omega),if_neg (fun e=>hsome (by rw [e]; rfl))]
 rw [hds];have hc:=hDc.claim;refine ag ?_;refine aH [0,1] _ [.int .i64 0,.int .i64 (-1)] rfl rfl rfl (aa rfl ct (aa rfl ct ah)) (by kernel_rfl) ?_;refine aM rfl uP rfl is42.q rfl rfl ?_;rintro g16 w7 f7;refine ag ?_;have b7:=b6.step f7.below;have hB7:=hB6.next f7.below;have hC7:=hC6.next f7.below;have hR7:=hR6.next f7.below;have hZ7:=f7.blk;have q16:=f7.at_;have s6:=b6.size;have s36:=d36.size;have sR:=f3.size;refine aj rfl (hC7.fld (j:=2) rfl) ?_;refine ag ?_;refine aj rfl (hC7.fld (j:=4) rfl) ?_;refine ag ?_;refine aj rfl (hC7.fld (j:=5) rfl) ?_;refine aA rfl (FL (aU hd b7) (aY hl b7) (aU hS b7) hsm ⟨hcI.t,hcI.a,hcI.d⟩) ?_;rintro y w8 ⟨d8,rfl⟩;have b8:=b7.step d8;refine ag ?_;refine aj rfl ((hC7.next d8).fld (j:=2) rfl) ?_;refine ag ?_;refine aj rfl ((hC7.next d8).fld (j:=5) rfl) ?_;refine aO (cap:= []) rfl rfl ie47.q rfl ct (aa rfl id (aa rfl id (aa rfl id (aa rfl id ah)))) (fun _=>Ji (aY hl b8) (aU hS b8) hsm) ?_;rintro w9 d9;refine ag ?_;refine aI [0,1,2,3,4,5,6,7,13,14,15,16,17,75] rfl ?_;have d79:=d8.step d9;have b9:=b8.step d9;have hB9:=hB7.next d79;have hC9:=hC7.next d79;have hR9:=hR7.next d79;have hZ9:=hZ7.next d79;have s9:=b9.size;have s79:=d79.size
 cases hr:fM d l ws c.to c.acc c.due with
 | true =>
  cases hs:kH l ws c.to c.due with
  | true =>
   have hrul:oK N d l ws ks ps c=(2,-1):=by
    unfold oK;rw [hr,if_neg (by simp),hs,if_pos rfl]
   rw [hrul];refine au rfl (fun h1=> ?_) (fun h2=> ?_)
   ·refine ag ?_;refine bi (j:=0) rfl is3.q rfl rfl hZ9 (by show 0<2; decide) rfl ?_;rintro w10 hZ10 hbut10 hsz10;refine ag ?_;have hR10:=Blk.keptO hR9 hbut10 (fun e=>by cases e; omega);have b10:=b9.grown hbut10 b9.size (fun q hq=>by cases hq; omega);refine au rfl (fun h3=> ?_) (fun h4=> ?_)
    ·exact absurd h3 (by decide)
    refine ag ?_;refine aF rfl (fun _ _ hv=>hZ10.fld hv) ?_;refine aQ rfl rfl rfl hR10 is42.q rfl rfl rfl ?_;rintro wr hBr hbutr hszr;refine ag ?_;refine ik results14 underlying42 (by exact is42.q) rfl rfl hBr ⟨b10.grown hbutr b10.size (fun q hq=>by cases hq; omega),rfl⟩
   ·exact absurd h2 (by decide)
  | false =>
   have hrul:oK N d l ws ks ps c=(0,-1):=by
    unfold oK;rw [hr,if_neg (by simp),hs,if_neg (by simp)]
   rw [hrul];refine au rfl (fun h1=> ?_) (fun h2=> ?_)
   ·exact absurd h1 (by decide)
   refine ag ?_;refine au rfl (fun h3=> ?_) (fun h4=> ?_)
   ·exact absurd h3 (by decide)
   refine ag ?_;refine aF rfl (fun _ _ hv=>hZ9.fld hv) ?_;refine aQ rfl rfl rfl hR9 is42.q rfl rfl rfl ?_;rintro wr hBr hbutr hszr;refine ag ?_
   refine ik results14 underlying42 (by exact is42.q) rfl rfl hBr ⟨b9.grown hbutr b9.size (fun q hq=>by cases hq; omega),rfl⟩
 | false =>
  have hrul:oK N d l ws ks ps c=(1,kM (gX N d l ws c.due) ks ps c.label c.due):=by
   unfold oK;rw [hr,if_pos rfl]
  rw [hrul];refine au rfl (fun h1=> ?_) (fun h2=> ?_)
  ·simp at h1
  refine ag ?_;refine au rfl (fun h3=> ?_) (fun h4=> ?_)
  ·refine ag ?_;refine bi (j:=0) rfl is3.q rfl rfl hZ9 (by show 0<2; decide) rfl ?_;rintro w10 hZ10 hbut10 hsz10;refine ag ?_;refine jw [0,1,2,3,4,5,6,7,13,14,15,16,17] rfl ?_;have hR10:=Blk.keptO hR9 hbut10 (fun e=>by cases e; omega);have hB10:=Blk.keptO hB9 hbut10 (fun e=>by cases e; have:=hB7.lt; have:=hB6.lt; omega);have hC10:=Blk.keptO hC9 hbut10 (fun e=>by cases e; have:=hC7.lt; have:=hC6.lt; omega);have b10:=b9.grown hbut10 b9.size (fun q hq=>by cases hq; omega);have s10:=b10.size;refine aF rfl (fun _ _ hv=>hB10.fld hv) ?_;refine ag ?_;refine aj rfl (hC10.fld (j:=5) rfl) ?_;refine aA rfl (tu (aL hN b10) hfw (aU hd b10) (aY hl b10) (aU hS b10)) ?_;rintro y w11 ⟨d11,hH⟩;have b11:=b10.step d11;have hC11:=hC10.next d11;have hR11:=hR10.next d11;have hZ11:=hZ10.next d11;have s11:=d11.size;obtain ⟨H,hHe⟩: ∃H,H=gX N d l ws c.due:=⟨_,rfl⟩;rw [<-hHe] at hH ⊢;obtain ⟨HA,hcap,rfl,_⟩:=SL.form hH;have hHmax:=hH.len.2.2;have hk11:=hk.below b11;have hps11:=fq hps b11;by_cases hl1:H.length=1
   ·obtain ⟨o,hHo⟩:=List.length_eq_one_iff.1 hl1;subst hHo;obtain ⟨ha,rfl⟩:=hH.addr (by simp);have hget:w11.cell? (ha.add ((0:Int).toNat*1))=some (.int .i64 o):=hH.getI (i:=0) rfl;refine ag ?_;refine bg mixed (by kernel_rfl) ?_;refine aZ ?_;refine aB rfl (hC11.fld (j:=0) rfl) ?_;refine aZ ?_;refine aB rfl hget ?_;refine aZ ?_;refine aB rfl (hC11.fld (j:=5) rfl) ?_;refine dw (.ex (.bool (dec (sM ks ps c.label o c.due)))) trivial rfl rfl ie19.q rfl ct (ax rfl id (ax rfl id (ax rfl id (ax rfl id (ax rfl id aP))))) (fun _ w' hb'=>tC (hk11.below hb') (fq hps11 hb') hFk) ?_;refine aZ ?_;refine bR [0,1,2,3,4,5,6,7,13,14,15,16,17,18,103] rfl fun w12 d12=> ?_;refine aD ?_;have b12:=b11.step d12;have hZ12:=hZ11.next d12;have hR12:=hR11.next d12;have s12:=d12.size;refine au rfl (fun h5=> ?_) (fun h6=> ?_)
    ·have he: ¬sM ks ps c.label o c.due:=fun he=>by
      rw [ay he] at h5;simp at h5
     have hli:kM [o] ks ps c.label c.due=o:=by
      unfold kM;dsimp only;rw [az he];rfl
     rw [hli];refine ag ?_;refine aj rfl ((hH.below d12).getI (i:=0) rfl) ?_;refine ag ?_;refine bi (j:=1) rfl is3.q rfl rfl hZ12 (by show 1<2; decide) rfl ?_;rintro w13 hZ13 hbut13 hsz13;refine ag ?_;refine jw [0,1,2,3,4,5,6,7,13,14,15,16,17,18] rfl ?_;have hR13:=Blk.keptO hR12 hbut13 (fun e=>by cases e; omega);have b13:=b12.grown hbut13 b12.size (fun q hq=>by cases hq; omega);refine aF rfl (fun _ _ hv=>hZ13.fld hv) ?_;refine aQ rfl rfl rfl hR13 is42.q rfl rfl rfl ?_;rintro wr hBr hbutr hszr;refine ag ?_;refine ik results14 underlying42 (by exact is42.q) rfl rfl hBr ⟨b13.grown hbutr b13.size (fun q hq=>by cases hq; omega),rfl⟩
    ·have he:sM ks ps c.label o c.due:=by
      cases hq:dec (sM ks ps c.label o c.due) with
      | true=>exact dec_iff.1 hq
      | false=>rw [hq] at h6; simp at h6
     have hli:kM [o] ks ps c.label c.due= -1:=by
      unfold kM;dsimp only;rw [ay he];rfl
     rw [hli];refine ag ?_;refine aF rfl (fun _ _ hv=>hZ12.fld hv) ?_;refine aQ rfl rfl rfl hR12 is42.q rfl rfl rfl ?_;rintro wr hBr hbutr hszr;refine ag ?_;refine ik results14 underlying42 (by exact is42.q) rfl rfl hBr ⟨b12.grown hbutr b12.size (fun q hq=>by cases hq; omega),rfl⟩
   ·have hli:kM H ks ps c.label c.due= -1:=by
     unfold kM
     split
     ·exact absurd rfl hl1
     ·rfl
    rw [hli];refine ag ?_;refine bg mixed (by kernel_rfl) ?_;refine bL aX rfl ⟨ct,trivial⟩ (fun _=>trivial) ?_;refine bL gI rfl ⟨ct,trivial⟩ (fun _=>trivial) ?_;refine bL uz rfl ⟨ct,ct,trivial⟩ (fun _=>trivial) ?_;refine bL aX rfl ⟨ct,trivial⟩ (fun _=>trivial) ?_;refine cZ (.bool false) rfl (by simp [aV]; omega) rfl rfl ?_;refine cZ (.bool false) rfl (by simp [aV]; omega) rfl rfl ?_;refine cZ (.bool false) rfl (by simp [aV]; omega) rfl rfl ?_;refine cZ (.bool false) rfl (by simp [aV]; omega) rfl rfl ?_;refine cZ (.bool false) rfl (by simp [aV]; omega) rfl rfl ?_;refine cZ (.bool false) rfl (by simp [aV]; omega) rfl rfl ?_;refine cZ (.bool false) rfl (by simp [aV]; omega) rfl rfl ?_;refine cZ (.bool false) rfl (by simp [aV]; omega) rfl rfl ?_;refine cZ (.bool false) rfl (by simp [aV]; omega) rfl rfl ?_;refine cZ (.bool false) rfl (by simp [aV]; omega) rfl rfl ?_;refine cZ (.bool false) rfl (by simp [aV]; omega) rfl rfl ?_;refine cZ (.bool false) rfl (by simp [aV]; omega) rfl rfl ?_;refine aZ ?_;refine bR [0,1,2,3,4,5,6,7,13,14,15,16,17,18,103] rfl fun w12 d12=> ?_;refine aD ?_;have b12:=b11.step d12;have hZ12:=hZ11.next d12;have hR12:=hR11.next d12;have s12:=d12.size
    refine au rfl (fun h5=> ?_) (fun h6=> ?_)
    ·exfalso;simp [hl1] at h5
    refine ag ?_;refine aF rfl (fun _ _ hv=>hZ12.fld hv) ?_;refine aQ rfl rfl rfl hR12 is42.q rfl rfl rfl ?_;rintro wr hBr hbutr hszr;refine ag ?_;refine ik results14 underlying42 (by exact is42.q) rfl rfl hBr ⟨b12.grown hbutr b12.size (fun q hq=>by cases hq; omega),rfl⟩
  ·exact absurd h4 (by decide)
theorem yF (hN:dI w v N) (hd:SD w dv d) (hl:SE w lv l) (hS:SD w wv ws) (hk:SI w kv ks) (hps:SPp w psv ps) (hcI:ClI c) (ht:Tabs w) :
  Gives prog 3 #[.agg v.cells.toArray,dv,lv,wv,kv,psv,.agg (Ih c).toArray,.string lab,.int .i64 op,.int .i64 t] w (ZJ w (.bool true)):=by
 refine gv (f:=3) ?_;refine ag ?_;refine aG rfl rfl rfl rfl ?_;rintro g10 w1 f1;refine aG rfl rfl rfl rfl ?_;rintro g16 w2 f2;refine ag ?_;have b2:=f1.below.step f2.below;have hB2:=f1.blk.next f2.below;have hC2:=f2.blk;refine aA rfl (LW (ht.below b2)) ?_;rintro y w3 ⟨c3,rfl⟩;have b3:=b2.step c3;refine ag ?_;refine aF rfl (fun _ _ hv=>(hB2.next c3).fld hv) ?_;refine ag ?_;refine aA rfl (FV (aL hN b3) (aU hd b3) (aY hl b3) (aU hS b3)) ?_;rintro y w4 ⟨c4,rfl⟩;have b4:=b3.step c4;refine ag ?_;refine aO (cap:= []) rfl rfl ie12.q rfl ct (aa rfl id (aa rfl id ah)) (fun _=>FX (hk.below b4) (fq hps b4)) ?_;rintro w5 c5;refine ag ?_;have b5:=b4.step c5;have c25:=c3.step (c4.step c5);have hB5:=hB2.next c25;have hC5:=hC2.next c25;refine aj rfl (hC5.fld (j:=0) rfl) ?_;refine ag ?_;refine aI [0,1,2,3,4,5,6,7,8,9,10,16,20,21,50] rfl ?_;refine au rfl (fun hbad=> ?_) (fun hgood=> ?_)
 ·refine ag ?_;refine aW rfl ⟨b5,rfl⟩
 have hg:LightP N d l ws/\FewK ks ps:=by
  cases h1:dec (LightP N d l ws) with
  | false=>rw [h1] at hgood; simp at hgood
  | true =>
   cases h2:dec (FewK ks ps) with
   | false=>rw [h1,h2] at hgood; simp at hgood
   | true=>exact ⟨dec_iff.1 h1,dec_iff.1 h2⟩
 obtain ⟨hL,hF⟩:=hg;have hne:=hL.needs;have hln:=hL.len;have hfw:=hL.net.few;refine ag ?_;refine aF rfl (fun _ _ hv=>hB5.fld hv) ?_;refine ag ?_;refine aF rfl (fun _ _ hv=>hC5.fld hv) ?_;refine aA rfl (uo (ht.below b5) (aL hN b5) (aU hd b5) (aY hl b5) (aU hS b5) (hk.below b5) (fq hps b5) hne hcI) ?_;rintro y w6 ⟨c6,rfl⟩;have b6:=b5.step c6;refine ag ?_;refine aM rfl uP rfl is42.q rfl rfl ?_;rintro g22 w7 f7;refine ag ?_;refine jw [0,1,2,3,4,5,6,7,8,9,10,16,20,21,22,23] rfl ?_;have b7:=b6.step f7.below;have c57:=c6.step f7.below;refine aF rfl (fun _ _ hv=>(hB5.next c57).fld hv) ?_;refine ag ?_;refine aF rfl (fun _ _ hv=>(hC5.next c57).fld hv) ?_;refine aA rfl (Dv (aL hN b7) hfw (aU hd b7) (aY hl b7) (aU hS b7) (hk.below b7) (fq hps b7) hF (by omega) hcI) ?_;rintro y w8 ⟨c8,rfl⟩;have b8:=b7.step c8;refine ag ?_;refine aM rfl uP rfl is42.q rfl rfl ?_;rintro g24 w9 f9;refine ag ?_;refine bg mixed (by kernel_rfl) ?_;refine aZ ?_;have b9:=b8.step f9.below;have c79:=c8.step f9.below;have hB9:=hB5.next (c57.step c79);have hA9:=f7.blk.next c79;have hZ9:=f9.blk;have ht9:=ht.below b9;have hN9:=aL hN b9;have hd9:=aU hd b9;have hl9:=aY hl b9;have hS9:=aU hS b9;have hk9:=hk.below b9
 have hps9:=fq hps b9;obtain ⟨rl,hrl⟩: ∃rl,rl=iG N d l ws ks ps c:=⟨_,rfl⟩;rw [<-hrl] at hA9 hZ9 ⊢;refine dx rfl (fun _ _ hv=>hA9.fld hv) ?_;refine dx rfl (fun _ _ hv=>hZ9.fld hv) ?_;refine Kh rfl rfl rfl id rfl id (by kernel_rfl) ?_;refine aZ ?_;refine dx rfl (fun _ _ hv=>hB9.fld hv) ?_;refine aZ ?_;refine dw (.pr (fun u W=>SI W u (gX N d l ws t))) ?_ rfl rfl ie16.q rfl ct (ax rfl id (ax rfl id (ax rfl id (ax rfl id (ax rfl id aP))))) (fun _ w' hb'=>nM (ht9.below hb') (aL hN9 hb') (aU hd9 hb') (aY hl9 hb') (aU hS9 hb') hne) ?_
 ·exact fun _ _ _ hb h=>h.step dV hb
 refine dx rfl (fun _ _ hv=>hB9.fld hv) ?_;refine aZ ?_;refine dw (.pr (fun u W=>SI W u (gX N d l ws t))) ?_ rfl rfl ie17.q rfl ct (ax rfl id (ax rfl id (ax rfl id (ax rfl id (ax rfl id aP))))) (fun _ w' hb'=>tu (aL hN9 hb') hfw (aU hd9 hb') (aY hl9 hb') (aU hS9 hb')) ?_
 ·exact fun _ _ _ hb h=>h.step dV hb
 refine iR (.ex (.bool true)) (trivial) rfl rfl ie15.q rfl ct (bJ rfl id (bJ rfl id fK)) (fun _ w' hb' vs hs=> ?_) ?_
 ·obtain ⟨u,x,rfl,hu,hx⟩:=Sats.two hs;have hu:SI w' u (gX N d l ws t):=hu;have hx:SI w' x (gX N d l ws t):=hx;exact (wK hu hx).mono fun x w'' ⟨h1,h2⟩=>⟨h1,h2.trans (by rw [decide_eq_true rfl])⟩
 refine aZ ?_;refine dw (.ex (.bool (dec (sM ks ps lab op t)))) trivial rfl rfl ie18.q rfl ct (ax rfl id (ax rfl id (ax rfl id (ax rfl id (ax rfl id aP))))) (fun _ w' hb'=>nP (hk9.below hb') (fq hps9 hb')) ?_;refine aZ ?_;refine dw (.ex (.bool (dec (sM ks ps lab op t)))) trivial rfl rfl ie19.q rfl ct (ax rfl id (ax rfl id (ax rfl id (ax rfl id (ax rfl id aP))))) (fun _ w' hb'=>tC (hk9.below hb') (fq hps9 hb') hF) ?_;refine aZ ?_;refine bR [0,1,2,3,4,5,6,7,8,9,10,16,20,21,22,23,24,25] rfl fun w10 b10=> ?_;refine ag ?_;refine aW rfl ⟨b9.step b10,?_⟩;simp [rY,Nw]
end Go.Proofs.YtobaafdejnimkaaGreatDoor
namespace Go.PF
open Go.RowKit Go.ChangeShapes Go.WideShapes Go.ChangeAt
section
variable {H:Type} {enc:TypeId×Value->H} {P:Program}
def Opens {α:Type} (P:Program) (t:TypeId) (T:Ty α):Prop :=
 ∀ {H:Type} (enc:TypeId×Value->H) (w:World) (base:Nat) (spare:Nat->Bool) (held:Bool) (fuel:Nat) (cs:List Value) (x:DataW H×List MemPlace),DataW.trod enc P w base spare held fuel t cs=some x-> ∃a,T.rep (fun _=>True) w cs a
theorem Opens.slice {α:Type} {t e:TypeId} {T:Ty α} (ht:P.underlying t=some (.slice e)) (hn:P.cellsOf e=T.n) (h:Opens P e T):Opens P t (sliceT T):=by
 intro H enc w base spare held fuel cs x hx;rcases Go.Deep.open_slice ht hx with ⟨rfl,_⟩|⟨a,len,cap,m,n,D,Pl,rfl,_,hl,hm,hmm,_,hi⟩
 ·exact ⟨[],_,rfl,SL.nil _ _ _⟩
 ·have hlm:len<=m:=by rw [hmm]; split<;>omega
  have hex: ∀i,i<len-> ∃y cs',T.rep (fun _=>True) w cs' y/\ ∀j u,cs'[j]?=some u->w.cell? ((a.add (i*T.n)).add j)=some u:=by
   intro i hil;obtain ⟨cs',hc,htr⟩:=hi i (by omega);obtain ⟨y,hy⟩:=h enc w base spare held n cs' _ htr;rw [hn] at hc;obtain ⟨_,hcl,hat⟩:=World.cells?_some hc;refine ⟨y,cs',hy,fun j u hj=> ?_⟩;have hjl:j<T.n:=by rw [<-hcl]; exact (ZE hj).1
   rw [hat j hjl,hj]
  let L:List α:=(List.range len).attach.map fun i=>Classical.choose (hex i.1 (List.mem_range.1 i.2))
  have hL:L.length=len:=by simp [L]
  refine ⟨L,_,rfl,some a,cap,by rw [hL],by omega,by rw [hL]; have:maxLen=9223372036854775807:=rfl; omega,?_⟩;intro i y hy;have hil:i<len:=by rw [<-hL]; exact (ZE hy).1
  have e:y=Classical.choose (hex i hil):=by
   simp [L,hil] at hy;exact hy.symm
  obtain ⟨cs',h1,h2⟩:=Classical.choose_spec (hex i hil);rw [<-e] at h1;exact ⟨a,cs',rfl,trivial,h2,h1⟩
theorem Opens.arg {α:Type} {t e:TypeId} {T:Ty α} {W:World} {b0:Nat} {v:Value} {d:DataW H} {ps:List MemPlace} (h:Opens P t (sliceT T)) (ht:P.underlying t=some (.slice e)) (hval:Value.okWide P W .any b0 t v) (hd:DataW.Trod enc P W 0 (fun _=>true) true t v d ps) :
  ∃ l,SL T (fun _=>True) W v l:=by
 obtain ⟨fuel,hf⟩:=hd;obtain ⟨l,v',hv',hl⟩:=h enc W _ _ _ _ _ _ hf;obtain ⟨a,len,cap,rfl⟩:=okWide_slice ht hval;simp [Value.cells] at hv';subst hv';exact ⟨l,hl⟩
theorem Opens.argS {α:Type} {t:TypeId} {fs:Array Field} {T:Ty α} {W:World} {b0:Nat} {v:Value} {d:DataW H} {ps:List MemPlace} (h:Opens P t T) (ht:P.underlying t=some (.struct fs)) (hval:Value.okWide P W .any b0 t v) (hd:DataW.Trod enc P W 0 (fun _=>true) true t v d ps) :
  ∃ a cs,v= .agg cs.toArray/\T.rep (fun _=>True) W cs a:=by
 obtain ⟨fuel,hf⟩:=hd;obtain ⟨a,ha⟩:=h enc W _ _ _ _ _ _ hf;obtain ⟨cs,rfl,_⟩:=okWide_struct ht hval;exact ⟨a,cs.toList,by simp,by simpa [Value.cells] using ha⟩
theorem uX (hl:laidOutB P=true) {W W':World} {sp:Nat->Bool}: ∀(ts:List TypeId) (vs:List Value) (ds:List (DataW H)) (ps:List MemPlace),(ts.all fun t=>P.readableRec t&&Nat.blt t P.types.size)=true->DataW.TrodAll enc P W 0 (fun _=>true) true ts vs ds ps ->
  (∀p∈ps,W.sameAt W' p)->(∀p∈ps,sp p.block=true)->DataW.TrodAll enc P W' 0 sp true ts vs ds ps
 | [],[],[],ps,_,h,_,_=>h
 | t::ts,v::vs,d::ds,ps,ht,h,h1,h2=>by
  obtain ⟨p,q,hd,hr,rfl⟩:=h;simp only [List.all_cons,Bool.and_eq_true] at ht;refine ⟨p,q,WideElems.Trod_stays hl ht.1.1 (blt_iff.1 ht.1.2) hd (fun x hx=>h1 x (List.mem_append.2 (.inl hx))) (fun x hx=>h2 x (List.mem_append.2 (.inl hx))),?_,rfl⟩
  exact uX hl ts vs ds q ht.2 hr (fun x hx=>h1 x (List.mem_append.2 (.inr hx))) (fun x hx=>h2 x (List.mem_append.2 (.inr hx)))
 | [],[],_::_,_,_,h,_,_=>h.elim
 | [],_::_,_,_,_,h,_,_=>h.elim
 | _::_,[],_,_,_,h,_,_=>h.elim
 | _::_,_::_,[],_,_,h,_,_=>h.elim
theorem GX {f:Func} {s:ChangeSpec} {apart fresh handsOn:Bool} {W W':World} {args:Array Value} {ds gs:List (DataW H)} {before:List MemPlace} {tb:TypeId} (hl:laidOutB P=true) (hW:DataW.Whole enc P f.params.toList s.vars apart W args.toList ds gs before) (hvars:s.vars= [])
  (hpar:(f.params.toList.all fun t=>P.readableRec t&&Nat.blt t P.types.size)=true) (hrt:f.resultTypes= #[tb]) (htb:P.underlying tb=some .bool) (hsr:(s.fn H (ds++gs)).results= [.lit (.bool true)]) (hsa:(s.fn H (ds++gs)).args=ds) (hsv:(s.fn H (ds++gs)).vars= [])
  (hb:Below W.heap.size W W'):s.post enc P f apart fresh handsOn false W args (.bool true) W':=by
 have hlt: ∀p∈before,p.block<W.heap.size:=fun p hp=>hW.lt p hp;obtain ⟨p,q,hA,hV,hpq,hz,hn⟩:=id hW;rw [hvars] at hV;have hq:q= []:=by
  cases gs with
  | nil=>exact hV
  | cons g gs=>exact hV.elim
 subst hq;rw [List.append_nil] at hpq;subst hpq;refine ⟨ds,gs,before,[],before,[],hW,?_,?_,?_,World.keptBut_mono (fun x hx=>⟨hx,.inr (.inl hx)⟩) (hb.frame (· ∈before)),fun h=>by cases h⟩
 ·rw [hsr,hrt];exact trodAll_mk1 ⟨1,by simp [DataW.trod,Value.cells,htb]⟩
 ·rw [hsa];exact uX hl _ _ _ _ hpar hA (fun x hx=>hb.same (hlt x hx)) (fun x hx=>by simpa using hlt x hx)
 ·rw [hsv,hvars]; rfl
theorem D3 {f:Func} {k:FuncId} {s:ChangeSpec} {apart fresh handsOn:Bool} {W:World} {args:Array Value} {ds gs:List (DataW H)} {before:List MemPlace} {tb:TypeId} (hl:laidOutB P=true) (hW:DataW.Whole enc P f.params.toList s.vars apart W args.toList ds gs before) (hvars:s.vars= [])
  (hpar:(f.params.toList.all fun t=>P.readableRec t&&Nat.blt t P.types.size)=true) (hrt:f.resultTypes= #[tb]) (htb:P.underlying tb=some .bool) (hsr:(s.fn H (ds++gs)).results= [.lit (.bool true)]) (hsa:(s.fn H (ds++gs)).args=ds) (hsv:(s.fn H (ds++gs)).vars= [])
  (h:Gives P k args W fun u W'=>Below W.heap.size W W'/\u= .bool true):Calls P k args W fun e W'=> ∃v,e= .returned v/\s.post enc P f apart fresh handsOn false W args v W' :=
 h.mono fun u W' ⟨hb,hu⟩=>by
  subst hu;exact GX hl hW hvars hpar hrt htb hsr hsa hsv hb
end
end Go.PF
