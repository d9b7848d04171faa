/- Texts of this claim,joined. -/
import Derived.Test.YtobaafdejnimkaaGreatDoorQD
import Derived.Shelf.Strings.OnBuilder
import Derived.Shelf.Sort.Plain
import Derived.Shelf.Strings.FuncGrows
import Derived.Shelf.Slices.In.SortNone
import Derived.Test.YtobaafdejnimkaaGreatDoorProg
import Derived.Sort.OwnSortedInts
import Derived.Lib.LaidTab
set_option linter.unusedSimpArgs false
set_option linter.unusedVariables false
set_option maxRecDepth 100000
set_option maxHeartbeats 4000000
namespace Go.Proofs.YtobaafdejnimkaaGreatDoor
open Tryz
open Go.PF Go.RowKit Go.Ord
attribute [local irreducible] TW CW KW DW
theorem Jq {w:World} {v u:Value} {l:List Ev} {S:List Int} {F:Nat->Prop} (hl:SE w v l) (hS:SL bC F w u S) (hsm:l.length<=1000000) (hne: ∀e∈l,e.needs.length<=1000000) :
  Gives prog 26 #[v,u] w fun x w'=>Below w.heap.size w w'/\SL evT (fun k=>w.heap.size<=k/\k<w'.heap.size) w' x (bz l S):=by
 obtain ⟨A,cap,rfl,_⟩:=hl.form;obtain ⟨B,bcap,rfl,_⟩:=hS.form;have hSmax:S.length<=9223372036854775807:=hS.len.2.2;refine gv (f:=26) ?_;refine ag ?_;refine jy jI rfl rfl ?_;rintro b w1 hbw hw1 hb1 hM1;refine il rfl MQ rfl is93.q rfl ?_;rintro g w2 f2;refine ag ?_;have hg2:=f2.at_;refine aJ [0,5,13,14] (fun i:Nat=> [(15,none,.int .i64 (i:Int))])
  (fun i W=>i<=S.length/\But b w2 W/\Drawn W b (S.take i)) (fun i=>S.length-i) 0 ⟨ZB,But.of_below ZA,⟨[],hM1.below f2.below,fun x=>by simp,fun p hp=>by cases hp⟩⟩ ?_
 rintro i W ⟨hi,hbut,hD⟩;have hbw2:Below w.heap.size w W:=But.below (hb1.step f2.below) hbut (by omega);have hBg:Blk W g 93 [.map (some b)]:=hbut.blk f2.blk (by omega);refine ag ?_;refine ai rfl (fun hlt=> ?_) (fun hge=> ?_)
 ·have hil:i<S.length:=by omega
  have hSW:=hS.below hbw2;obtain ⟨ad,rfl⟩:=hSW.addr (by omega);have hx:S[i]?=some S[i]:=ZD hil;obtain ⟨m,hm,hmS,hmT⟩:=hD;refine ag ?_;refine aj rfl (hSW.getI hx) ?_;refine ag ?_;refine aj rfl (hBg.cell 0) ?_;refine ag ?_;refine fV jI S[i] (vz:= .bool true) rfl underlying93 rfl rfl rfl hm ?_;rintro w3 hs3 hbut3 hM3;refine ag ?_;refine aC (i+1) ⟨by omega,hbut.trans hbut3,_,hM3,fun x=> ?_,fun p hp=> ?_⟩
  ·rw [ZG,hx];constructor
   ·rintro ⟨v,hv⟩;rcases mem_lput.1 hv with h|⟨h,_⟩
    ·simp only [Prod.mk.injEq] at h; rw [h.1]; exact List.mem_append_right _ (by simp)
    ·exact List.mem_append_left _ ((hmS x).1 ⟨v,h⟩)
   ·intro h;by_cases hxe:x=S[i]
    ·exact ⟨.bool true,mem_lput.2 (.inl (by rw [hxe]))⟩
    ·rcases ZH h with h|h
     ·obtain ⟨v,hv⟩:=(hmS x).2 h;exact ⟨v,mem_lput.2 (.inr ⟨hv,hxe⟩)⟩
     ·simp at h;exact absurd h hxe
  ·rcases mem_lput.1 hp with rfl|⟨h,_⟩
   ·rfl
   ·exact hmT p h
 have hD':Drawn W b S:=by
  rw [show i=S.length by omega,List.take_length] at hD;exact hD
 refine ag ?_;refine aN rfl rfl (aa rfl ct ah) ?_;refine ag ?_;refine aJ [8,23,24] (fun x:Nat×Value×List (List Value×Ev)=> [(9,none,x.2.1),(25,none,.int .i64 (x.1:Int))])
  (fun x W'=>x.1<=l.length/\Below W.heap.size W W'/\RowB evT W' 60 W.heap.size x.2.1 x.2.2/\x.2.2.map (·.2)=bz (l.take x.1) S) (fun x=>l.length-x.1) (0,.slice none 0 0,[]) ⟨ZB,ZA,RowB.nil _ _ _ _,rfl⟩ ?_
 rintro ⟨k,rv,ps⟩ W' ⟨hk,hB,hR,hmap⟩;dsimp only at hk hB hR hmap;refine ag ?_;refine aI [8,9,23,24,25,26] rfl ?_;refine ai rfl (fun hlt2=> ?_) (fun hge2=> ?_)
 ·have hkl:k<l.length:=by omega
  obtain ⟨e,he⟩: ∃e,l[k]?=some e:=⟨l[k],ZD hkl⟩;have hem:=ZF he;have hlW:=aY hl (hbw2.step hB);obtain ⟨ad,rfl⟩:=hlW.addr (by omega);obtain ⟨nv,hcells,i1,i2,i3,hneeds⟩:=SE.get hlW he;obtain ⟨C,ncap,rfl,_⟩:=hneeds.form;have htk:bz (l.take (k+1)) S=bz (l.take k) S++if gone S e then [] else [e]:=by
   unfold bz;rw [ZG,he,List.filter_append];cases hq:gone S e<;>simp [List.filter,hq]
  refine ag ?_;refine aF rfl (hcells) ?_;refine aM rfl nY rfl is60.q rfl rfl ?_;rintro g3 w3 f3;refine ag ?_;have hB3:=hB.step f3.below;refine aF rfl (fun _ _ h=>f3.blk.fld h) ?_;refine bK rfl rfl ie72.q rfl (aa rfl ct ah) (Cg (hBg.next hB3) (hD'.step hB3) (hneeds.below f3.below)) ?_;rintro y4 w4 ⟨hb4,rfl⟩;have hB4:=hB3.step hb4;have hBk4:=f3.blk.next hb4;refine ag ?_;refine au rfl (fun hin=> ?_) (fun hout=> ?_)
  ·have hg0:gone S e=false:=by simpa using hin
   rw [hg0] at htk;refine ag ?_;refine aj rfl (hBk4.fld rfl) ?_;refine aA rfl (zo ((hneeds.below f3.below).below hb4) (hne e hem)) ?_;rintro y5 w5 ⟨hb5,hn5,C5,n5,c5,rfl⟩;have hBk5:=hBk4.next hb5;refine ag ?_;refine bi rfl is32.q rfl rfl hBk5 (by show 3<4; decide) rfl ?_;rintro w6 hB6 hbut6 hsz6;refine ag ?_;have hB5:=hB4.step hb5;have hB6':Below W.heap.size W w6:=hB5.grown hbut6 hB5.size (fun q hq=>by cases hq; have:=f3.at_; have:=hB.size; omega);have hg3w:W'.heap.size<=g3:=Nat.le_of_eq f3.at_.symm;refine aF rfl (fun _ _ h=>hB6.fld h) ?_;refine ak 60 _ rfl rfl rfl qP (aa rfl ct ah) rfl rfl rfl rfl rfl ?_;rintro g7 w7 f7;have hW6:Below W'.heap.size W' w6:=by
    have h5:=(f3.below.step hb4).step hb5;exact h5.grown hbut6 h5.size (fun q hq=>by cases hq; exact hg3w)
   have hR7:=(hR.step hW6).step f7.below;have hrow: ∀q,rv.ownBlock=some q->q<W'.heap.size:=fun q hq=>hR.1.lt hq;have hn7:SL bC (fun k=>W.heap.size<=k/\kF w7 rv k) w7 (.slice C5 n5 c5) e.needs:=by
    have h6:=SL.mono hn5 (w':=w6) (bn fun k hk hlt=>hbut6.block k hlt (fun e=>by cases e; have:=f3.size; have:=hb4.size; omega));refine SL.wider (SL.nb sG (h6.below f7.below)) (fun k hk=>⟨Nat.le_trans hB4.size hk.1,hk.2,fun e=> ?_⟩);have h1:=hrow k e;have h2:=hk.1;have:=f3.below.size;have:=hb4.size;omega
   have hfew:ps.length<=1000000:=by
    have h1:ps.length=(bz (l.take k) S).length:=by rw [<-hmap]; simp
    have h2:(bz (l.take k) S).length<=(l.take k).length:=List.length_filter_le _ _;have h3:(l.take k).length<=l.length:=by rw [List.length_take]; omega
    omega
   refine aK [.int .i64 e.office,.int .i64 e.low,.int .i64 e.high,.slice C5 n5 c5] rfl rfl uS rfl hR7.1 rfl rfl (fun j v hj=>⟨⟨g7,0,none⟩,rfl,f7.blk.fld hj⟩) (fun v hv=>by simp at hv; rcases hv with rfl|rfl|rfl|rfl<;>rfl) (by omega) (by omega) ?_;rintro rv' w8 hO8 hg8 hnew8;refine ag ?_;have hW7:Below W'.heap.size W' w7:=hW6.step f7.below;have hBW7:Below W.heap.size W w7:=hB6'.step f7.below;have hown: ∀q,rv.ownBlock=some q->W.heap.size<=q:=hR.2.2;have hR8:RowB evT w8 60 W.heap.size rv' (ps++ [([.int .i64 e.office,.int .i64 e.low,.int .i64 e.high,.slice C5 n5 c5],e)]):=hR7.app hO8 hg8 hnew8 ⟨_,rfl,i1,i2,i3,hn7⟩ hBW7.size;refine aC (k+1,rv',ps++ [([.int .i64 e.office,.int .i64 e.low,.int .i64 e.high,.slice C5 n5 c5],e)]) ⟨by show k+1<=l.length; omega,hBW7.grown hg8 hBW7.size hown,hR8,?_⟩;show List.map Prod.snd (ps++ [_])=bz (l.take (k+1)) S;rw [List.map_append,hmap,htk];simp
  ·have hg1:gone S e=true:=by simpa using hout
   rw [hg1] at htk;refine ag ?_;refine aC (k+1,rv,ps) ⟨by show k+1<=l.length; omega,hB4,(hR.step f3.below).step hb4,?_⟩;show ps.map (·.2)=bz (l.take (k+1)) S;rw [hmap,htk];simp
 ·refine ag ?_;have hke:k=l.length:=by omega
  subst hke;refine aW rfl ⟨hbw2.step hB,?_⟩;have:=hR.sl (by decide);rw [hmap,List.take_length] at this;exact this.wider fun k hk=>⟨Nat.le_trans hbw2.size hk.1,hk.2⟩
end Go.Proofs.YtobaafdejnimkaaGreatDoor
namespace Go.Ord
abbrev Ln:=Nat×Nat×Int
inductive ReachL (L:List Ln):Nat->Nat->Prop
 | refl (a:Nat):ReachL L a a
 | step {a b c:Nat} {t:Int}:ReachL L a b->(b,c,t)∈L->ReachL L a c
theorem ReachL.trans {L:List Ln} {a b c:Nat} (h:ReachL L a b) (k:ReachL L b c):ReachL L a c:=by
 induction k with
 | refl=>exact h
 | step _ hm ih=>exact ih.step hm
theorem ReachL.one {L:List Ln} {a b:Nat} {t:Int} (h:(a,b,t)∈L):ReachL L a b:=(ReachL.refl a).step h
abbrev dh:=List Int
def g12 (M:dh) (a b:Nat):Int:=M.getD (12*a+b) (-1)
def dK (M:dh) (a b:Nat) (t:Int):dh:=if g12 M a b= -1∨t<g12 M a b then M.set (12*a+b) t else M
theorem xX (M:dh) (a b:Nat) (t:Int):(dK M a b t).length=M.length:=by
 unfold dK
 split<;>simp
theorem qL {M:dh} {a b:Nat} {t:Int} (hl:M.length=144) (ha:a<12) (hb:b<12) (x y:Nat) (hx:x<12) (hy:y<12) :
  g12 (dK M a b t) x y=if x=a/\y=b/\(g12 M a b= -1∨t<g12 M a b) then t else g12 M x y:=by
 unfold dK;by_cases hc:g12 M a b= -1∨t<g12 M a b
 ·rw [if_pos hc];unfold g12;rw [List.getD_eq_getElem?_getD,List.getElem?_set];by_cases he:x=a/\y=b
  ·obtain ⟨rfl,rfl⟩:=he;rw [if_pos rfl,if_pos (by omega),if_pos ⟨rfl,rfl,hc⟩];rfl
  ·rw [if_neg (by omega),if_neg (fun h=>he ⟨h.1,h.2.1⟩),List.getD_eq_getElem?_getD]
 ·rw [if_neg hc,if_neg (fun h=>hc h.2.2)]
def init12:dh:=(List.range 144).map fun i=>if i / 12=i%12 then 0 else -1
theorem ui {a b:Nat} (ha:a<12) (hb:b<12):g12 init12 a b=if a=b then 0 else -1:=by
 unfold g12 init12;rw [List.getD_eq_getElem?_getD,List.getElem?_map,List.getElem?_range (by omega)];show (if (12*a+b) / 12=(12*a+b)%12 then (0:Int) else -1)=_;have h1:(12*a+b) / 12=a:=by omega
 have h2:(12*a+b)%12=b:=by omega
 rw [h1,h2]
def gM (M:dh) (L:List Ln):dh:=L.foldl (fun M l=>dK M l.1 l.2.1 l.2.2) M
def kZ (o a:Nat) (M:dh) (b:Nat):dh:=if g12 M a o≠ -1/\g12 M o b≠ -1 then dK M a b (g12 M a o+g12 M o b) else M
def iw (o:Nat) (M:dh) (a:Nat) (n:Nat):dh:=(List.range n).foldl (kZ o a) M
def gW (M:dh) (o n:Nat):dh:=(List.range n).foldl (fun M a=>iw o M a 12) M
def gY (M:dh) (n:Nat):dh:=(List.range n).foldl (fun M o=>gW M o 12) M
def fe (L:List Ln):dh:=gY (gM init12 L) 12
theorem Af (o:Nat) (M:dh) (a n:Nat):iw o M a (n+1)=kZ o a (iw o M a n) n:=by simp only [iw,List.range_succ,List.foldl_append,List.foldl_cons,List.foldl_nil]
theorem Ah (M:dh) (o n:Nat):gW M o (n+1)=iw o (gW M o n) n 12:=by simp only [gW,List.range_succ,List.foldl_append,List.foldl_cons,List.foldl_nil]
theorem BG (M:dh) (n:Nat):gY M (n+1)=gW (gY M n) n 12:=by simp only [gY,List.range_succ,List.foldl_append,List.foldl_cons,List.foldl_nil]
theorem Ae (o:Nat) (M:dh) (a:Nat):iw o M a 0=M:=by simp [iw]
theorem Ag (M:dh) (o:Nat):gW M o 0=M:=by simp [gW]
theorem BF (M:dh):gY M 0=M:=by simp [gY]
theorem wU (M:dh) (L:List Ln) (l:Ln):gM M (L++ [l])=dK (gM M L) l.1 l.2.1 l.2.2:=by simp [gM]
def iM (k:Nat):dh:=(List.range 144).map fun i=>if i<k then (if i / 12=i%12 then 0 else -1) else 0
theorem qK (k:Nat):(iM k).length=144:=by simp [iM]
theorem D8:iM 144=init12:=by
 unfold iM init12;refine List.map_congr_left fun i hi=> ?_;rw [if_pos (List.mem_range.1 hi)]
theorem Be:iM 0=List.replicate 144 0:=by
 unfold iM;apply List.ext_getElem?;intro i;rw [List.getElem?_map,List.getElem?_replicate];by_cases hi:i<144
 ·rw [List.getElem?_range hi,if_pos hi]; rfl
 ·rw [List.getElem?_eq_none (by simpa using hi),if_neg hi]; rfl
theorem Bf {k:Nat} (hk:k<144):iM (k+1)=if k / 12=k%12 then iM k else (iM k).set k (-1):=by
 apply List.ext_getElem?;intro i;have e: ∀m,(iM m)[i]?=if i<144 then some (if i<m then (if i / 12=i%12 then 0 else -1) else 0) else none:=fun m=>by
  unfold iM;rw [List.getElem?_map];by_cases hi:i<144
  ·rw [List.getElem?_range hi,if_pos hi]; rfl
  ·rw [List.getElem?_eq_none (by simpa using hi),if_neg hi]; rfl
 by_cases hd:k / 12=k%12
 ·rw [if_pos hd,e,e];by_cases hik:i=k
  ·subst hik;rw [if_pos hk,if_pos hk,if_pos (by omega),if_pos hd,if_neg (by omega)]
  ·by_cases h:i<k
   ·rw [if_pos (show i<k+1 by omega),if_pos h]
   ·rw [if_neg (show¬i<k+1 by omega),if_neg h]
 ·rw [if_neg hd,List.getElem?_set,e,e];by_cases hik:k=i
  ·subst hik;rw [if_pos rfl,if_pos hk,if_pos (by omega),if_neg hd,if_pos (by rw [qK]; exact hk)]
  ·rw [if_neg hik];by_cases h:i<k
   ·rw [if_pos (show i<k+1 by omega),if_pos h]
   ·rw [if_neg (show¬i<k+1 by omega),if_neg h]
structure T12 (L:List Ln) (B:Int) (M:dh):Prop where
 len:M.length=144
 diag: ∀a,a<12->g12 M a a=0
 rng: ∀a b,a<12->b<12-> -1<=g12 M a b/\g12 M a b<=B
 sound: ∀a b,a<12->b<12->g12 M a b≠ -1->ReachL L a b
theorem T12.more {L:List Ln} {B B':Int} {M:dh} (h:T12 L B M) (hb:B<=B'):T12 L B' M:=⟨h.len,h.diag,fun a b h1 h2=>⟨(h.rng a b h1 h2).1,Int.le_trans (h.rng a b h1 h2).2 hb⟩,h.sound⟩
def Le12 (M M':dh):Prop:= ∀a b,a<12->b<12->g12 M a b≠ -1->g12 M' a b≠ -1
theorem Le12.refl (M:dh):Le12 M M:=fun _ _ _ _ h=>h
theorem Le12.trans {a b c:dh} (h:Le12 a b) (k:Le12 b c):Le12 a c:=fun x y hx hy hn=>k x y hx hy (h x y hx hy hn)
theorem uE (L:List Ln):T12 L 0 init12:=by
 refine ⟨by simp [init12],fun a ha=>by rw [ui ha ha,if_pos rfl],fun a b ha hb=> ?_,fun a b ha hb h=> ?_⟩
 ·rw [ui ha hb]; split<;>omega
 ·rw [ui ha hb] at h;by_cases e:a=b
  ·subst e; exact .refl _
  ·rw [if_neg e] at h; exact absurd rfl h
theorem T12.relax {L:List Ln} {B:Int} {M:dh} (h:T12 L B M) {a b:Nat} {t:Int} (ha:a<12) (hb:b<12) (ht:0<=t) (htB:t<=B) (hr:ReachL L a b):T12 L B (dK M a b t)/\Le12 M (dK M a b t)/\g12 (dK M a b t) a b≠ -1:=by
 have hg:=fun x y hx hy=>qL (t:=t) h.len ha hb x y hx hy;refine ⟨⟨by rw [xX]; exact h.len,fun x hx=> ?_,fun x y hx hy=> ?_,fun x y hx hy hn=> ?_⟩,fun x y hx hy hn=> ?_,?_⟩
 ·rw [hg x x hx hx]
  split
  ·rename_i hc;obtain ⟨rfl,rfl,hc⟩:=hc;rw [h.diag _ hx] at hc;omega
  ·exact h.diag x hx
 ·rw [hg x y hx hy]
  split
  ·omega
  ·exact h.rng x y hx hy
 ·rw [hg x y hx hy] at hn
  split at hn
  ·rename_i hc;obtain ⟨rfl,rfl,_⟩:=hc;exact hr
  ·exact h.sound x y hx hy hn
 ·rw [hg x y hx hy]
  split
  ·omega
  ·exact hn
 ·rw [hg a b ha hb]
  split
  ·omega
  ·rename_i hc;intro e;exact hc ⟨rfl,rfl,.inl e⟩
def LnOK (n:Nat) (L:List Ln):Prop:= ∀l∈L,l.1<n/\l.2.1<n/\1<=l.2.2/\l.2.2<=5000
theorem l8 {L:List Ln}: ∀(K:List Ln) (M:dh),(∀l∈K,l∈L)->LnOK 12 L->T12 L 5000 M->T12 L 5000 (gM M K)/\Le12 M (gM M K)/\ ∀l∈K,g12 (gM M K) l.1 l.2.1≠ -1
 | [],M,_,_,h=>⟨h,Le12.refl _,fun l hl=>by cases hl⟩
 | l::K,M,hs,hL,h=>by
  have hl:=hL l (hs l (by simp));obtain ⟨h1,h2,h3⟩:=h.relax (t:=l.2.2) hl.1 hl.2.1 (by omega) hl.2.2.2 (ReachL.one (t:=l.2.2) (hs l (by simp)));obtain ⟨k1,k2,k3⟩:=l8 K (dK M l.1 l.2.1 l.2.2) (fun x hx=>hs x (by simp [hx])) hL h1;refine ⟨k1,h2.trans k2,fun x hx=> ?_⟩;rcases List.mem_cons.1 hx with rfl|hx
  ·exact k2 _ _ hl.1 hl.2.1 h3
  ·exact k3 x hx
structure R12 (L:List Ln) (B:Int) (o:Nat) (M0 M:dh):Prop where
 t:T12 L (2*B) M
 col: ∀x,x<12->g12 M x o=g12 M0 x o/\g12 M o x=g12 M0 o x
theorem Kb {L:List Ln} {B:Int} {o a b:Nat} {M0 M:dh} (h0:T12 L B M0) (h:R12 L B o M0 M) (ho:o<12) (ha:a<12) (hb:b<12):R12 L B o M0 (kZ o a M b)/\Le12 M (kZ o a M b)/\(g12 M0 a o≠ -1->g12 M0 o b≠ -1->g12 (kZ o a M b) a b≠ -1):=by
 unfold kZ;by_cases hc:g12 M a o≠ -1/\g12 M o b≠ -1
 ·rw [if_pos hc];have e1:=(h.col a ha).1;have e2:=(h.col b hb).2;have r1:=h0.rng a o ha ho;have r2:=h0.rng o b ho hb;rw [e1,e2] at hc ⊢;obtain ⟨k1,k2,k3⟩:=h.t.relax (t:=g12 M0 a o+g12 M0 o b) ha hb (by omega) (by omega) ((h0.sound a o ha ho hc.1).trans (h0.sound o b ho hb hc.2));refine ⟨⟨k1,fun x hx=> ?_⟩,k2,fun _ _=>k3⟩;have hd:=h0.diag o ho;have hco:=h.col o ho;constructor
  ·rw [qL h.t.len ha hb x o hx ho,<-(h.col x hx).1];by_cases hq:x=a/\o=b/\(g12 M a b= -1∨g12 M0 a o+g12 M0 o b<g12 M a b)
   ·obtain ⟨rfl,rfl,hq⟩:=hq;rw [hd,e1] at hq;omega
   ·rw [if_neg hq]
  ·rw [qL h.t.len ha hb o x ho hx,<-(h.col x hx).2];by_cases hq:o=a/\x=b/\(g12 M a b= -1∨g12 M0 a o+g12 M0 o b<g12 M a b)
   ·obtain ⟨rfl,rfl,hq⟩:=hq;rw [hd,e2] at hq;omega
   ·rw [if_neg hq]
 ·rw [if_neg hc];refine ⟨h,Le12.refl _,fun h1 h2=>absurd ⟨?_,?_⟩ hc⟩
  ·rw [(h.col a ha).1]; exact h1
  ·rw [(h.col b hb).2]; exact h2
theorem R12.row {L:List Ln} {B:Int} {o a:Nat} {M0 M:dh} (h0:T12 L B M0) (ho:o<12) (ha:a<12) (h:R12 L B o M0 M): ∀(n:Nat),n<=12->R12 L B o M0 (iw o M a n)/\Le12 M (iw o M a n)/\ ∀b,b<n->g12 M0 a o≠ -1->g12 M0 o b≠ -1->g12 (iw o M a n) a b≠ -1:=by
 intro n
 induction n with
 | zero =>
  intro _;rw [show iw o M a 0=M from rfl]
  exact ⟨h,Le12.refl _,fun b hb=>by omega⟩
 | succ n ih =>
  intro hn;obtain ⟨k1,k2,k3⟩:=ih (by omega);have e:iw o M a (n+1)=kZ o a (iw o M a n) n:=by simp only [iw,List.range_succ,List.foldl_append,List.foldl_cons,List.foldl_nil]
  rw [e];obtain ⟨j1,j2,j3⟩:=Kb (b:=n) h0 k1 ho ha (by omega);refine ⟨j1,k2.trans j2,fun b hb g1 g2=> ?_⟩;rcases ZI b n with hlt|hge
  ·exact j2 a b ha (by omega) (k3 b hlt g1 g2)
  ·have:b=n:=by omega
   subst this;exact j3 g1 g2
theorem CZ {L:List Ln} {B:Int} {o:Nat} {M0:dh} (hB:0<=B) (h0:T12 L B M0) (ho:o<12): ∀(n:Nat),n<=12->R12 L B o M0 (gW M0 o n)/\Le12 M0 (gW M0 o n)/\ ∀(a b:Nat),a<n->b<12->g12 M0 a o≠ -1->g12 M0 o b≠ -1->g12 (gW M0 o n) a b≠ -1:=by
 intro n
 induction n with
 | zero =>
  intro _;rw [show gW M0 o 0=M0 from rfl]
  exact ⟨⟨h0.more (by omega),fun x _=>⟨rfl,rfl⟩⟩,Le12.refl _,fun a b ha=>by omega⟩
 | succ n ih =>
  intro hn;obtain ⟨k1,k2,k3⟩:=ih (by omega);have e:gW M0 o (n+1)=iw o (gW M0 o n) n 12:=by simp only [gW,List.range_succ,List.foldl_append,List.foldl_cons,List.foldl_nil]
  rw [e];obtain ⟨j1,j2,j3⟩:=R12.row h0 ho (by omega:n<12) k1 12 (by omega);refine ⟨j1,k2.trans j2,fun a b ha hb g1 g2=> ?_⟩;rcases ZI a n with hlt|hge
  ·exact j2 a b (by omega) hb (k3 a b hlt hb g1 g2)
  ·have:a=n:=by omega
   subst this;exact j3 b hb g1 g2
inductive WayL (L:List Ln) (k:Nat):Nat->Nat->Prop
 | refl (a:Nat):WayL L k a a
 | one {a b:Nat} {t:Int}:(a,b,t)∈L->WayL L k a b
 | step {a b c:Nat} {t:Int}:WayL L k a b->b<k->(b,c,t)∈L->WayL L k a c
theorem EW {L:List Ln} {n:Nat} (hL:LnOK n L) {a b:Nat} (h:ReachL L a b):WayL L n a b:=by
 induction h with
 | refl=>exact .refl _
 | step _ hm ih=>exact ih.step (hL _ hm).1 hm
theorem zS {L:List Ln} {k a b:Nat} (h:WayL L (k+1) a b):WayL L k a b∨(WayL L k a k/\WayL L k k b):=by
 induction h with
 | refl=>exact .inl (.refl _)
 | one hm=>exact .inl (.one hm)
 | @step b c t hw hb hm ih =>
  rcases ZI b k with hlt|hge
  ·rcases ih with h|⟨h1,h2⟩
   ·exact .inl (h.step hlt hm)
   ·exact .inr ⟨h1,h2.step hlt hm⟩
  ·have:b=k:=by omega
   subst this;rcases ih with h|⟨h1,_⟩
   ·exact .inr ⟨h,.one hm⟩
   ·exact .inr ⟨h1,.one hm⟩
theorem zB {L:List Ln} {M:dh} (hM:T12 L 5000 M) (hone: ∀l∈L,g12 M l.1 l.2.1≠ -1) (hL:LnOK 12 L): ∀(n:Nat),n<=12->T12 L (5000*2 ^ n) (gY M n)/\ ∀(a b:Nat),a<12->b<12->WayL L n a b->g12 (gY M n) a b≠ -1:=by
 intro n
 induction n with
 | zero =>
  intro _;rw [show gY M 0=M from rfl];refine ⟨hM.more (by omega),fun a b ha hb hw=> ?_⟩
  cases hw with
  | refl =>
   rw [hM.diag a ha]
   decide
  | one hm=>exact hone _ hm
  | step _ h _=>omega
 | succ n ih =>
  intro hn;obtain ⟨k1,k2⟩:=ih (by omega);have e:gY M (n+1)=gW (gY M n) n 12:=by simp only [gY,List.range_succ,List.foldl_append,List.foldl_cons,List.foldl_nil]
  rw [e];have hp:(0:Int)<=5000*2 ^ n:=Int.mul_nonneg (by decide) (Int.pow_nonneg (by decide));obtain ⟨j1,j2,j3⟩:=CZ hp k1 (by omega:n<12) 12 (by omega);refine ⟨j1.t.more (by rw [Int.pow_succ]; omega),fun a b ha hb hw=> ?_⟩;rcases zS hw with h|⟨h1,h2⟩
  ·exact j2 a b ha hb (k2 a b ha hb h)
  ·exact j3 a b ha hb (k2 a n ha (by omega) h1) (k2 n b (by omega) hb h2)
theorem EZ {L:List Ln} (hL:LnOK 12 L) {o a b:Nat} (ho:o<12) (ha:a<12) (hb:b<=12):T12 L 40960000 (iw o (gW (gY (gM init12 L) o) o a) a b):=by
 obtain ⟨h1,h2,h3⟩:=l8 L init12 (fun _ h=>h) hL ((uE L).more (by decide));obtain ⟨k1,_⟩:=zB h1 h3 hL o (by omega);have hp:(0:Int)<=5000*2 ^ o:=Int.mul_nonneg (by decide) (Int.pow_nonneg (by decide));obtain ⟨j1,_,_⟩:=CZ hp k1 ho a (by omega);obtain ⟨i1,_,_⟩:=R12.row k1 ho ha j1 b hb;refine i1.t.more ?_;have:(2:Int) ^ o<=2 ^ 12:=by
  have:=Nat.pow_le_pow_right (n:=2) (by decide) (show o<=12 by omega)
  exact_mod_cast this
 have e:(2:Int) ^ 12=4096:=by decide
 omega
theorem AX {L:List Ln} (hL:LnOK 12 L) (K:List Ln) (hs: ∀l∈K,l∈L):T12 L 5000 (gM init12 K):=(l8 K init12 hs hL ((uE L).more (by decide))).1
theorem lX {L:List Ln} (hL:LnOK 12 L):T12 L 20480000 (fe L)/\ ∀a b,a<12->b<12->(g12 (fe L) a b= -1↔ ¬ReachL L a b):=by
 obtain ⟨h1,h2,h3⟩:=l8 L init12 (fun _ h=>h) hL ((uE L).more (by decide));obtain ⟨k1,k2⟩:=zB h1 h3 hL 12 (by omega);refine ⟨k1,fun a b ha hb=>⟨fun h hr=>k2 a b ha hb (EW hL hr) h,fun hn=>Classical.byContradiction fun h=>hn (k1.sound a b ha hb h)⟩⟩
def gB (r:List Int) (b:Nat):Int:=r.getD b (-1)
def qF (r:List Int) (l:Ln):List Int:=if 0<=gB r l.1/\(gB r l.2.1<0∨gB r l.1+l.2.2<gB r l.2.1) then r.set l.2.1 (gB r l.1+l.2.2) else r
def gF (r:List Int) (L:List Ln):List Int:=L.foldl qF r
def iI (L:List Ln) (r:List Int):Nat->List Int
 | 0=>r
 | k+1=>gF (iI L r k) L
def eG (n a:Nat):List Int:=(List.replicate n (-1:Int)).set a 0
def mD (L:List Ln) (n a:Nat):List Int:=iI L (eG n a) n
theorem Ho {r:List Int} {i:Nat} {x:Int} (hi:i<r.length) (b:Nat):gB (r.set i x) b=if b=i then x else gB r b:=by
 unfold gB;rw [List.getD_eq_getElem?_getD,List.getElem?_set];by_cases h:i=b
 ·subst h;rw [if_pos rfl,if_pos hi,if_pos rfl];rfl
 ·rw [if_neg h,if_neg (fun e=>h e.symm),List.getD_eq_getElem?_getD]
structure RB (L:List Ln) (n a:Nat) (B:Int) (r:List Int):Prop where
 len:r.length=n
 own:gB r a=0
 rng: ∀b,-1<=gB r b/\gB r b<=B
 sound: ∀b,b<n->0<=gB r b->ReachL L a b
def Pw (r s:List Int):Prop:= ∀b,0<=gB r b->0<=gB s b
theorem RB.start (L:List Ln) {n a:Nat} (ha:a<n):RB L n a 0 (eG n a):=by
 have hg: ∀b,gB (eG n a) b=if b=a then 0 else -1:=fun b=>by
  unfold eG;rw [Ho (by simpa using ha)]
  split
  ·rfl
  ·unfold gB;rw [List.getD_eq_getElem?_getD,List.getElem?_replicate]
   split<;>rfl
 refine ⟨by simp [eG],by rw [hg,if_pos rfl],fun b=>by rw [hg]; split<;>omega,fun b _ h=> ?_⟩;rw [hg] at h;by_cases e:b=a
 ·subst e; exact .refl _
 ·rw [if_neg e] at h; omega
theorem RB.rlx {L:List Ln} {n a:Nat} {B:Int} {r:List Int} (h:RB L n a B r) (hB:0<=B) {l:Ln} (hl:l∈L) (h1:l.1<n) (h2:l.2.1<n) (h3:1<=l.2.2/\l.2.2<=5000):RB L n a (B+5000) (qF r l)/\Pw r (qF r l)/\(0<=gB r l.1->0<=gB (qF r l) l.2.1):=by
 unfold qF;by_cases hc:0<=gB r l.1/\(gB r l.2.1<0∨gB r l.1+l.2.2<gB r l.2.1)
 ·rw [if_pos hc];have hg:=fun b=>Ho (x:=gB r l.1+l.2.2) (by rw [h.len]; exact h2:l.2.1<r.length) b;have hr1:=h.rng l.1;refine ⟨⟨by simp [h.len],?_,fun b=> ?_,fun b hb hge=> ?_⟩,fun b hb=> ?_,fun _=> ?_⟩
  ·rw [hg]
   split
   ·rename_i e;rw [<-e] at hc;have:=h.own;omega
   ·exact h.own
  ·rw [hg];have:=h.rng b
   split<;>omega
  ·rw [hg] at hge
   split at hge
   ·rename_i e;subst e;exact (h.sound l.1 h1 hc.1).step (t:=l.2.2) hl
   ·exact h.sound b hb hge
  ·rw [hg]
   split<;>omega
  ·rw [hg,if_pos rfl];omega
 ·rw [if_neg hc];exact ⟨⟨h.len,h.own,fun b=>by have:=h.rng b; omega,h.sound⟩,fun b hb=>hb,fun h1=>by omega⟩
theorem RB.lines {L:List Ln} {n a:Nat} (hL:LnOK n L): ∀(K:List Ln) (B:Int) (r:List Int),(∀l∈K,l∈L)->0<=B->RB L n a B r->RB L n a (B+5000*K.length) (gF r K)/\Pw r (gF r K)/\ ∀l∈K,0<=gB r l.1->0<=gB (gF r K) l.2.1
 | [],B,r,_,_,h=>⟨by simpa [gF] using h,fun _ h=>h,fun l hl=>by cases hl⟩
 | l::K,B,r,hs,hB,h=>by
  have hl:=hL l (hs l (by simp));obtain ⟨h1,h2,h3⟩:=h.rlx hB (hs l (by simp)) hl.1 hl.2.1 hl.2.2;obtain ⟨k1,k2,k3⟩:=RB.lines hL K (B+5000) (qF r l) (fun x hx=>hs x (by simp [hx])) (by omega) h1;refine ⟨⟨k1.len,k1.own,fun b=> ?_,k1.sound⟩,fun b hb=>k2 b (h2 b hb),fun x hx hge=> ?_⟩
  ·have:=k1.rng b;show -1<=gB (gF (qF r l) K) b/\gB (gF (qF r l) K) b<=_;simp only [List.length_cons];omega
  ·rcases List.mem_cons.1 hx with rfl|hx
   ·exact k2 _ (h3 hge)
   ·exact k3 x hx (h2 _ hge)
theorem sJ {L:List Ln} {n a:Nat} (hL:LnOK n L) (ha:a<n): ∀k:Nat,RB L n a (5000*(k*L.length:Nat)) (iI L (eG n a) k)
 | 0=>by simpa [iI] using RB.start L ha
 | k+1=>by
  have h:=sJ hL ha k;obtain ⟨h1,_,_⟩:=RB.lines hL L _ _ (fun _ h=>h) (by omega) h;refine ⟨h1.len,h1.own,fun b=> ?_,h1.sound⟩;have:=h1.rng b;show -1<=gB (gF _ L) b/\gB (gF _ L) b<=_;have e:(k+1)*L.length=k*L.length+L.length:=Nat.succ_mul _ _;rw [e];omega
def Eo (n:Nat) (r:List Int):Nat:=((List.range n).filter fun b=>decide (0<=gB r b)).length
theorem JX (n:Nat) (r:List Int):Eo n r<=n:=by
 unfold Eo;have:=List.length_filter_le (fun b=>decide (0<=gB r b)) (List.range n);simpa using this
theorem oD {α:Type} {p q:α->Bool}: ∀ {l:List α},(∀x∈l,p x=true->q x=true)->(∃x∈l,q x=true/\p x=false)->(l.filter p).length<(l.filter q).length
 | [],_,h=>by obtain ⟨x,hx,_⟩:=h; cases hx
 | y::l,h,h'=>by
  have hle:(l.filter p).length<=(l.filter q).length:=by
   clear h'
   induction l with
   | nil=>simp
   | cons z l ih =>
    have ih:=ih fun x hx=>h x (by simp at hx ⊢; rcases hx with h|h<;>simp [h]);have hz:=h z (by simp);rw [List.filter_cons,List.filter_cons]
    split
    ·rename_i hp;rw [if_pos (hz hp)];simpa using ih
    ·split<;>simp<;>omega
  obtain ⟨x,hx,h1,h2⟩:=h';rw [List.filter_cons,List.filter_cons];rcases List.mem_cons.1 hx with rfl|hx
  ·rw [if_pos h1,if_neg (by rw [h2]; simp)];simp;omega
  ·have ih:=oD (l:=l) (fun z hz=>h z (by simp [hz])) ⟨x,hx,h1,h2⟩;have hy:=h y (by simp)
   split
   ·rename_i hp;rw [if_pos (hy hp)];simpa using ih
   ·split<;>simp<;>omega
def C9 (L:List Ln) (r:List Int):Prop:= ∀l∈L,0<=gB r l.1->0<=gB r l.2.1
theorem rz {L:List Ln} {n a:Nat} (hL:LnOK n L) (ha:a<n): ∀k:Nat,C9 L (iI L (eG n a) k)∨k+1<=Eo n (iI L (eG n a) k)
 | 0=>by
  right;have h:=(RB.start L ha).own;unfold Eo;have:a∈(List.range n).filter fun b=>decide (0<=gB (eG n a) b):=List.mem_filter.2 ⟨List.mem_range.2 ha,by rw [h]; rfl⟩
  exact List.length_pos_of_mem this
 | k+1=>by
  have h:=sJ hL ha k;obtain ⟨_,h2,h3⟩:=RB.lines hL L _ _ (fun _ h=>h) (by omega) h;by_cases hs: ∀b,b<n->0<=gB (gF (iI L (eG n a) k) L) b->0<=gB (iI L (eG n a) k) b
  ·left;intro l hl hge;have:=hL l hl;exact h3 l hl (hs l.1 this.1 hge)
  ·have hex: ∃b,b<n/\0<=gB (gF (iI L (eG n a) k) L) b/\ ¬0<=gB (iI L (eG n a) k) b:=Classical.byContradiction fun hn=>hs fun b hb hge=>Classical.byContradiction fun h=>hn ⟨b,hb,hge,h⟩;obtain ⟨b,hb,hge,hno⟩:=hex;have hlt:Eo n (iI L (eG n a) k)<Eo n (iI L (eG n a) (k+1)):=oD (fun x _ hx=>decide_eq_true (h2 x (of_decide_eq_true hx))) ⟨b,List.mem_range.2 hb,decide_eq_true hge,decide_eq_false hno⟩;rcases rz hL ha k with hc|hc
   ·-- closed before:nothing new
    exfalso;have hr:=(RB.lines hL L _ _ (fun _ h=>h) (by omega) h).1.sound b hb hge;have hall: ∀c,ReachL L a c->0<=gB (iI L (eG n a) k) c:=fun c hc'=>by
     induction hc' with
     | refl=>rw [h.own]; exact Int.le_refl _
     | step _ hm ih=>exact hc _ hm ih
    exact hno (hall b hr)
   ·right;omega
theorem wJ {L:List Ln} {n a:Nat} (hL:LnOK n L) (ha:a<n):(mD L n a).length=n/\(∀b,-1<=gB (mD L n a) b/\gB (mD L n a) b<=5000*(n*L.length:Nat))/\ ∀b,b<n->(gB (mD L n a) b<0↔ ¬ReachL L a b):=by
 have h:=sJ hL ha n;refine ⟨h.len,h.rng,fun b hb=>⟨fun hn hr=> ?_,fun hn=>Classical.byContradiction fun hge=>hn (h.sound b hb (by show 0<=gB (mD L n a) b; omega))⟩⟩;have hc:C9 L (mD L n a):=by
  rcases rz hL ha n with h|h
  ·exact h
  ·have:=JX n (iI L (eG n a) n); omega
 have hall: ∀c,ReachL L a c->0<=gB (mD L n a) c:=fun c hc'=>by
  induction hc' with
  | refl=>rw [show gB (mD L n a) a=0 from h.own]; exact Int.le_refl _
  | step _ hm ih=>exact hc _ hm ih
 have:=hall b hr;omega
structure Cal where
 zone:Int
 week:List Bool
 hol:List Int
structure Of where
 name:ByteArray
 op:Int
 cal:Int
 pock:Int
 pass:Int
 mins:Int
 codes:List ByteArray
structure Li where
 name:ByteArray
 frm:Int
 to:Int
 at_:Int
 trav:Int
 load:Int
structure Cla where
 name:ByteArray
 cut:Int
 del:Int
structure Net where
 cals:List Cal
 names:List ByteArray
 ops:List ByteArray
 offs:List Of
 lines:List Li
 classes:List Cla
def dN (s:ByteArray) (i:Nat):Nat:=(s.data.getD i 0).toNat
structure CalOK (c:Cal):Prop where
 z1: -720<=c.zone
 z2:c.zone<=840
 wk:c.week.length=7
 few:c.hol.length<=40
 inc: ∀(i:Nat) (x y:Int),c.hol[i]?=some x->c.hol[i+1]?=some y->x<y
def ol (b:Nat):Prop:=97<=b/\b<=122
def jD (b:Nat):Prop:=48<=b/\b<=57
structure NameOK (keys:List ByteArray) (s:ByteArray):Prop where
 n1:1<=s.size
 n2:s.size<=16
 fst:ol (dN s 0)
 all: ∀i,i<s.size->ol (dN s i)∨jD (dN s i)∨dN s i=95
 nokey:s ∉ keys
structure CodeOK (s:ByteArray):Prop where
 n1:1<=s.size
 n2:s.size<=8
 all: ∀i,i<s.size->(65<=dN s i/\dN s i<=90)∨jD (dN s i)
structure OfOK (N:Net) (o:Of):Prop where
 o1:0<=o.op
 o2:o.op<N.ops.length
 c1:0<=o.cal
 c2:o.cal<N.cals.length
 few:o.codes.length<=20
 codes: ∀c∈o.codes,CodeOK c
 p1:2<=o.pock
 p2:o.pock<=64
 q1:1<=o.pass
 q2:o.pass<=4
 m1:1<=o.mins
 m2:o.mins<=240
structure LiOK (N:Net) (l:Li):Prop where
 f1:0<=l.frm
 f2:l.frm<N.offs.length
 t1:0<=l.to
 t2:l.to<N.offs.length
 ne:l.frm≠l.to
 a1:0<=l.at_
 a2:l.at_<=1439
 r1:1<=l.trav
 r2:l.trav<=5000
 d1:1<=l.load
 d2:l.load<=40
structure ClaOK (c:Cla):Prop where
 c1:0<=c.cut
 c2:c.cut<=1439
 d1:0<=c.del
 d2:c.del<=1439
structure KindOK {α:Type} (keys:List ByteArray) (lim:Nat) (names:List ByteArray) (l:List α) (good:α->Prop):Prop where
 few:l.length<=lim
 name: ∀s∈names,NameOK keys s
 nodup:names.Nodup
 good: ∀x∈l,good x
structure ConsOK (keys:List ByteArray) (N:Net):Prop where
 len:N.names.length=N.cals.length
 cals:KindOK keys 6 N.names N.cals CalOK
 ops:KindOK keys 6 N.ops N.ops (fun _=>True)
 offs:KindOK keys 12 (N.offs.map (·.name)) N.offs (OfOK N)
 lines:KindOK keys 40 (N.lines.map (·.name)) N.lines (LiOK N)
 classes:KindOK keys 4 (N.classes.map (·.name)) N.classes ClaOK
def eP (N:Net):List Ln:=N.lines.map fun l=>(l.frm.toNat,l.to.toNat,l.trav)
structure SoundOK (keys:List ByteArray) (N:Net):Prop where
 cons:ConsOK keys N
 all: ∀a b,a<N.offs.length->b<N.offs.length->ReachL (eP N) a b
theorem ConsOK.ln {keys:List ByteArray} {N:Net} (h:ConsOK keys N):LnOK N.offs.length (eP N)/\N.offs.length<=12/\(eP N).length<=40:=by
 refine ⟨fun l hl=> ?_,h.offs.few,by unfold eP; rw [List.length_map]; exact h.lines.few⟩;obtain ⟨x,hx,rfl⟩:=List.mem_map.1 hl;have:=h.lines.good x hx;have h1:=this.f1;have h2:=this.f2;have h3:=this.t1;have h4:=this.t2;exact ⟨by show x.frm.toNat<_; omega,by show x.to.toNat<_; omega,this.r1,this.r2⟩
theorem LnOK.more {n m:Nat} {L:List Ln} (h:LnOK n L) (hm:n<=m):LnOK m L:=fun l hl=>by
 have:=h l hl;exact ⟨by omega,by omega,this.2.2⟩
def keys11:List ByteArray:= ["calendar", "operator", "office", "line", "class", "zone", "week", "holiday", "pockets", "passes", "minutes", "codes", "at", "travel", "load", "cut", "deliver"].map String.toUTF8
end Go.Ord
namespace Go.PF
open Go.RowKit Go.Ord
def calT:Ty Cal where
 n:=3
 rep:=fun F w cs c=> ∃u v,cs= [.int .i64 c.zone,u,v]/\eB c.zone/\SL boolT F w u c.week/\SL bC F w v c.hol
 len:=fun _ _ _ _ h=>by obtain ⟨u,v,h,_⟩:=h; rw [h]; rfl
 mono:=fun _ _ _ _ _ hk h=>by obtain ⟨u,v,h,h1,h2,h3⟩:=h; exact ⟨u,v,h,h1,h2.mono hk,h3.mono hk⟩
 wider:=fun _ _ _ _ _ hF h=>by obtain ⟨u,v,h,h1,h2,h3⟩:=h; exact ⟨u,v,h,h1,h2.wider hF,h3.wider hF⟩
theorem zw:Ty.Now calT:=⟨by decide,fun F w cs e ⟨u,v,h,h1,h2,h3⟩=>⟨u,v,h,h1,h2.now Es,h3.now dV⟩⟩
def ofT:Ty Of where
 n:=7
 rep:=fun F w cs o=> ∃v,cs= [.string o.name,.int .i64 o.op,.int .i64 o.cal,.int .i64 o.pock,.int .i64 o.pass,.int .i64 o.mins,v]/\o.name.size<=9223372036854775807/\eB o.op/\eB o.cal/\eB o.pock/\eB o.pass/\eB o.mins/\SL strT F w v o.codes
 len:=fun _ _ _ _ h=>by obtain ⟨v,h,_⟩:=h; rw [h]; rfl
 mono:=fun _ _ _ _ _ hk h=>by obtain ⟨v,h,h1,h2,h3,h4,h5,h6,hs⟩:=h; exact ⟨v,h,h1,h2,h3,h4,h5,h6,hs.mono hk⟩
 wider:=fun _ _ _ _ _ hF h=>by obtain ⟨v,h,h1,h2,h3,h4,h5,h6,hs⟩:=h; exact ⟨v,h,h1,h2,h3,h4,h5,h6,hs.wider hF⟩
theorem Cs:Ty.Now ofT:=⟨by decide,fun F w cs e ⟨v,h,h1,h2,h3,h4,h5,h6,hs⟩=>⟨v,h,h1,h2,h3,h4,h5,h6,hs.now mG⟩⟩
def Cv (l:Li):List Value:= [.string l.name,.int .i64 l.frm,.int .i64 l.to,.int .i64 l.at_,.int .i64 l.trav,.int .i64 l.load]
def liT:Ty Li where
 n:=6
 rep:=fun _ _ cs l=>cs=Cv l/\l.name.size<=9223372036854775807/\eB l.frm/\eB l.to/\eB l.at_/\eB l.trav/\eB l.load
 len:=fun _ _ _ _ h=>by rw [h.1]; rfl
 mono:=fun _ _ _ _ _ _ h=>h
 wider:=fun _ _ _ _ _ _ h=>h
theorem Cw:Ty.Now liT:=⟨by decide,fun _ _ _ _ h=>h⟩
def NC (l:Cla):List Value:= [.string l.name,.int .i64 l.cut,.int .i64 l.del]
def claT:Ty Cla where
 n:=3
 rep:=fun _ _ cs l=>cs=NC l/\l.name.size<=9223372036854775807/\eB l.cut/\eB l.del
 len:=fun _ _ _ _ h=>by rw [h.1]; rfl
 mono:=fun _ _ _ _ _ _ h=>h
 wider:=fun _ _ _ _ _ _ h=>h
theorem zq:Ty.Now claT:=⟨by decide,fun _ _ _ _ h=>h⟩
structure NV where
 c:Value
 n:Value
 o:Value
 f:Value
 l:Value
 k:Value
def NV.cells (v:NV):List Value:= [v.c,v.n,v.o,v.f,v.l,v.k]
structure NetIn (F:Nat->Prop) (w:World) (v:NV) (N:Net):Prop where
 c:SL calT F w v.c N.cals
 n:SL strT F w v.n N.names
 o:SL strT F w v.o N.ops
 f:SL ofT F w v.f N.offs
 l:SL liT F w v.l N.lines
 k:SL claT F w v.k N.classes
theorem NetIn.below {F:Nat->Prop} {w w':World} {v:NV} {N:Net} (h:NetIn F w v N) (hb:Below w.heap.size w w'):NetIn F w' v N:=⟨h.c.below hb,h.n.below hb,h.o.below hb,h.f.below hb,h.l.below hb,h.k.below hb⟩
abbrev dI (w:World) (v:NV) (N:Net):Prop:=NetIn (fun k=>k<w.heap.size) w v N
theorem NetIn.now {F:Nat->Prop} {w:World} {v:NV} {N:Net} (h:NetIn F w v N):dI w v N:=⟨h.c.now zw,h.n.now mG,h.o.now mG,h.f.now Cs,h.l.now Cw,h.k.now zq⟩
theorem NetIn.wider {F G:Nat->Prop} {w:World} {v:NV} {N:Net} (h:NetIn F w v N) (hF: ∀k,F k->G k):NetIn G w v N:=⟨h.c.wider hF,h.n.wider hF,h.o.wider hF,h.f.wider hF,h.l.wider hF,h.k.wider hF⟩
theorem aL {w w':World} {v:NV} {N:Net} (h:dI w v N) (hb:Below w.heap.size w w'):dI w' v N:=⟨h.c.step zw hb,h.n.step mG hb,h.o.step mG hb,h.f.step Cs hb,h.l.step Cw hb,h.k.step zq hb⟩
end Go.PF
namespace Go.Ord
variable {d:bA}
def xD (o f t:Int):Ev:=⟨o,f,t,[]⟩
def NI (d:bA) (x:ET) (o τ:Int):Prop:=at2 d x.1.office.toNat o.toNat≠ -1/\at2 d x.1.office.toNat o.toNat<=τ-x.2
def NN (d:bA) (o τ:Int) (x:ET):Prop:=at2 d o.toNat x.1.office.toNat≠ -1/\at2 d o.toNat x.1.office.toNat<=x.2-τ
def PV (d:bA) (rest:List Ev) (o τ:Int):Prop:=0<=τ/\τ<=1000000/\ ∃l:List ET,l.map (·.1)=rest/\HoldsN d l/\ ∀x∈l,NI d x o τ∨NN d o τ x
theorem Gg {rest:List Ev} {o f t:Int}:Poss d (rest++ [xD o f t])↔ ∃τ,f<=τ/\τ<=t/\PV d rest o τ:=by
 constructor
 ·rintro ⟨l,hl,h⟩;obtain ⟨l1,l2,rfl,h1,h2⟩:=List.map_eq_append_iff.1 hl;obtain ⟨y,rfl,hy⟩: ∃y,l2= [y]/\y.1=xD o f t:=by
   cases l2 with
   | nil=>simp at h2
   | cons y l2 =>
    simp at h2;exact ⟨y,by rw [h2.2],h2.1⟩
  have he:=h.each y (by simp);rw [hy] at he;obtain ⟨p1,_,p3⟩:=List.pairwise_append.1 h.two;refine ⟨y.2,he.2.2.1,he.2.2.2,he.1,he.2.1,l1,h1,⟨fun x hx=>h.each x (by simp [hx]),p1⟩,fun x hx=> ?_⟩;have:=p3 x hx y (by simp);unfold EN at this;rw [hy] at this;exact this
 ·rintro ⟨τ,h1,h2,h3,h4,l,rfl,hl,hx⟩;refine ⟨l++ [(xD o f t,τ)],by simp,⟨fun x hm=> ?_,List.pairwise_append.2 ⟨hl.two,List.pairwise_singleton _ _,fun x hm y hy=> ?_⟩⟩⟩
  ·rcases ZH hm with hm|hm
   ·exact hl.each x hm
   ·rw [List.mem_singleton] at hm;subst hm;exact ⟨h3,h4,h1,h2⟩
  ·rw [List.mem_singleton] at hy;subst hy;exact hx x hm
theorem HoldsN.sub {l l':List ET} (h:HoldsN d l) (hs:l'.Sublist l):HoldsN d l':=⟨fun x hx=>h.each x (hs.subset hx),h.two.sublist hs⟩
theorem sF {α β:Type} {f:α->β}: ∀ {l:List α} {m:List β},m.Sublist (l.map f)-> ∃l':List α,l'.Sublist l/\l'.map f=m
 | [],m,h=>⟨[],List.Sublist.refl _,by simp at h; rw [h]; rfl⟩
 | x::l,m,h=>by
  rw [List.map_cons] at h
  cases h with
  | cons _ h =>
   obtain ⟨l',h1,h2⟩:=sF h
   exact ⟨l',h1.cons _,h2⟩
  | cons_cons _ h =>
   obtain ⟨l',h1,h2⟩:=sF h;exact ⟨x::l',h1.cons_cons _,by simp [h2]⟩
theorem PV.sub {rest rest':List Ev} {o τ:Int} (h:PV d rest o τ) (hs:rest'.Sublist rest):PV d rest' o τ:=by
 obtain ⟨h1,h2,l,rfl,hl,hx⟩:=h;obtain ⟨l',k1,k2⟩:=sF hs;exact ⟨h1,h2,l',k2,hl.sub k1,fun x hm=>hx x (k1.subset hm)⟩
theorem PossJ.sub {rest rest':List Ev} {a b:Ev} {g:Int} (h:PossJ d rest a b g) (hs:rest'.Sublist rest):PossJ d rest' a b g:=by
 obtain ⟨h0,l,t,rfl,h1,h2,h3,h4⟩:=h;obtain ⟨l',k1,k2⟩:=sF hs;exact ⟨h0,l',t,k2,h1.sub k1,h2,h3,fun x hm=>h4 x (k1.subset hm)⟩
end Go.Ord
namespace Go.Proofs.YtobaafdejnimkaaGreatDoor
open Tryz
open Go.PF Go.RowKit Go.Ord
variable {i:Nat} {t:Int}
abbrev qR:=Int×Int
def bU (l:List Ev) (ws:List (List Int)):List (List Ev):=ws.map (bz l)
def vE (l:Li) (t:Int):Ev:=⟨l.frm,t-l.trav+1,t-1,[]⟩
def wh (l:Li) (t:Int):Ev:=⟨l.to,t+1,t+l.trav-1,[]⟩
inductive Knd
 | at (o f t:Int)
 | on (l:Li) (t:Int)
def Knd.more:Knd->List Ev
 | .at o f t=> [xD o f t]
 | .on l t=> [vE l t,wh l t]
noncomputable def Knd.b (d:bA) (k:Knd) (r:List Ev):Bool:=match k with
 | .at o f t=>dec (kY d (r++ [xD o f t]))
 | .on l t=>dec (C6 d (r++ [vE l t,wh l t]) r (vE l t) (wh l t) l.trav)
noncomputable def jg (d:bA) (rs:List (List Ev)) (k:Knd):Bool:=rs.any (k.b d)
def pI (n:Nat) (t:Int):List (qR×Knd):=(List.range n).map fun i:Nat=>(((i:Int),-1),.at (i:Int) t t)
def rF (ls:List Li) (t:Int):List (qR×Knd):=ls.mapIdx fun i l=>((-1,(i:Int)),.on l t)
def jZ (N:Net) (t:Int):List (qR×Knd):=pI N.offs.length t++rF N.lines t
noncomputable def lT (N:Net) (d:bA) (rs:List (List Ev)) (t:Int):List qR:=((jZ N t).filter fun p=>jg d rs p.2).map (·.1)
structure PossOK (N:Net) (d:bA) (l:List Ev) (nw:Nat) (t:Int):Prop where
 sound:SoundOK keys11 N
 fit:FitW d l nw
 same:d.length=N.offs.length
 t0:0<=t
 t1:t<=1000000
noncomputable def ig (N:Net) (d:bA) (l:List Ev) (ws:List (List Int)) (t:Int):List qR:=if dec (PossOK N d l ws.length t)=true then lT N d (bU l ws) t else []
noncomputable def fM (d:bA) (l:List Ev) (ws:List (List Int)) (o f t:Int):Bool:=dec (FitW d l ws.length)&&decide (0<=o/\o<(d.length:Int))&&jg d (bU l ws) (.at o f t)
def dQ (o by_:Int) (e:Ev):Bool:=decide (e.office=o/\e.high<=by_)
def kH (l:List Ev) (ws:List (List Int)) (o by_:Int):Bool:=decide (0<ws.length)&&ws.all fun S=>(bz l S).any (dQ o by_)
theorem nK (n:Nat) (t:Int):(pI n t).length=n:=by simp [pI]
theorem qI (ls:List Li) (t:Int):(rF ls t).length=ls.length:=by simp [rF]
theorem Gw {n:Nat} (h:i<n):(pI n t)[i]?=some (((i:Int),-1),.at i t t):=by simp [pI,h]
theorem tT {ls:List Li} {l:Li} (h:ls[i]?=some l):(rF ls t)[i]?=some ((-1,(i:Int)),.on l t):=by simp [rF,List.getElem?_mapIdx,h]
theorem pG (N:Net) (t:Int):(jZ N t).length=N.offs.length+N.lines.length:=by simp [jZ,nK,qI]
theorem ym {N:Net} (h:i<N.offs.length):(jZ N t)[i]?=some (((i:Int),-1),.at i t t):=by
 unfold jZ;rw [List.getElem?_append_left (by rw [nK]; exact h),Gw h]
theorem yn {N:Net} {l:Li} (h:N.lines[i]?=some l):(jZ N t)[N.offs.length+i]?=some ((-1,(i:Int)),.on l t):=by
 unfold jZ;rw [List.getElem?_append_right (by rw [nK]; omega),nK,show N.offs.length+i-N.offs.length=i by omega,tT h]
theorem rJ {α β:Type} {l:List α} {p:α->Bool} {f:α->β} {x:α} (h:l[i]?=some x):((l.take (i+1)).filter p).map f=((l.take i).filter p).map f++if p x then [f x] else []:=by
 rw [ZG,h,List.filter_append,List.map_append];cases hq:p x<;>simp [List.filter,hq]
def wE:Ty qR where
 n:=2
 rep:=fun _ _ cs s=>cs= [.int .i64 s.1,.int .i64 s.2]/\eB s.1/\eB s.2
 len:=fun _ _ _ _ h=>by rw [h.1]; rfl
 mono:=fun _ _ _ _ _ _ h=>h
 wider:=fun _ _ _ _ _ _ h=>h
theorem E5:Ty.Now wE:=⟨by decide,fun _ _ _ _ h=>h⟩
def zY (s:qR):List Value:= [.int .i64 s.1,.int .i64 s.2]
abbrev SPs (w:World) (v:Value) (l:List qR):Prop:=SL wE (fun k=>k<w.heap.size) w v l
theorem E6 {w w':World} {v:Value} {l:List qR} (h:SPs w v l) (hb:Below w.heap.size w w'):SPs w' v l:=h.step E5 hb
theorem SPs.get {F:Nat->Prop} {w:World} {ad:Addr} {n cap:Nat} {l:List qR} (h:SL wE F w (.slice (some ad) n cap) l) {s:qR} (hx:l[i]?=some s) :
  (∀j u,(zY s)[j]?=some u->w.cell? ((ad.add ((i:Int).toNat*2)).add j)=some u)/\eB s.1/\eB s.2:=by
 obtain ⟨ad',cs,h1,_,⟨rfl,g1,g2⟩,hc⟩:=h.at hx;cases h1;exact ⟨hc,g1,g2⟩
end Go.Proofs.YtobaafdejnimkaaGreatDoor
namespace Go.Proofs
open Tryz
open Go.Shelf
def lH:Go.Shelf.Ren:=⟨fun|156=>258|165=>270|166=>271|169=>272|240=>282|241=>283|276=>289|277=>290|n=>n,fun|31=>23|9=>9|3=>3|4=>4|0=>0|20=>20|72=>301|76=>305|70=>299|37=>281|75=>304|127=>315|164=>320|5=>5|80=>307|n=>n,fun|n=>n⟩
theorem xx:Go.Proofs.Lays.n156 prog lH:= {
 mixed:=by kernel_rfl
 f156:=func258.trans (congrArg some (by kernel_rfl))
 f165:=func270.trans (congrArg some (by kernel_rfl))
 f166:=func271.trans (congrArg some (by kernel_rfl))
 f169:=func272.trans (congrArg some (by kernel_rfl))
 f240:=func282.trans (congrArg some (by kernel_rfl))
 f241:=func283.trans (congrArg some (by kernel_rfl))
 f276:=func289.trans (congrArg some (by kernel_rfl))
 f277:=func290.trans (congrArg some (by kernel_rfl))
 t0:=underlying0
 a0:=isAgg0
 z0:=sizeOf0
 v0:=zeroValue0
 t3:=underlying3
 a3:=isAgg3
 z3:=sizeOf3
 v3:=zeroValue3
 t4:=underlying4
 a4:=isAgg4
 z4:=sizeOf4
 v4:=zeroValue4
 t9:=underlying9
 a9:=isAgg9
 z9:=sizeOf9
 v9:=zeroValue9
 t20:=underlying20
 a20:=isAgg20
 z20:=sizeOf20
 v20:=zeroValue20
 t31:=underlying23
 a31:=isAgg23
 z31:=sizeOf23
 v31:=zeroValue23
 t37:=underlying281
 a37:=isAgg281
 z37:=sizeOf281
 v37:=zeroValue281
 t70:=underlying299
 a70:=isAgg299
 z70:=sizeOf299
 v70:=zeroValue299
 t72:=underlying301
 a72:=isAgg301
 z72:=sizeOf301
 v72:=zeroValue301
 t75:=underlying304
 a75:=isAgg304
 z75:=sizeOf304
 v75:=zeroValue304
 t76:=underlying305
 a76:=isAgg305
 z76:=sizeOf305
 v76:=zeroValue305
 t127:=underlying315
 a127:=isAgg315
 z127:=sizeOf315
 v127:=zeroValue315
 t164:=underlying320
 a164:=isAgg320
 z164:=sizeOf320
 v164:=zeroValue320}
theorem ma:Builder.Extra prog lH:= {
 sizeBuilder:=by kernel_rfl
 liesBuilder:=by kernel_rfl
 t5:=underlying5
 a5:=isAgg5
 z5:=sizeOf5
 v5:=zeroValue5
 infoByte:=by kernel_rfl
 cellsByte:=by kernel_rfl
 sizeByte:=by kernel_rfl
 neB5:=by decide}
open Go.RowKit in
open Go.RowKit in
theorem Tryz.strings_Join (bk o c:Nat) (xs:List ByteArray) (sep:ByteArray) (w:World) (hcells: ∀(j:Nat) x,xs[j]?=some x->w.cell? ⟨bk,o+j,none⟩=some (.string x)) (hbk:bk<w.heap.size) (hN:xs.length<=140737488355328) (hcap:xs.length<=c) (hlen:(Lib.join (xs.map (·.data.toList)) sep.data.toList).length<=140737488355328) :
  Calls prog 258 #[.slice (some ⟨bk,o,none⟩) xs.length c,.string sep] w fun e w'=>e= .returned (.string ⟨(Lib.join (xs.map (·.data.toList)) sep.data.toList).toArray⟩)/\Below w.heap.size w w':=Any.strings_Join xx ma bk o c xs sep w hcells hbk hN hcap hlen
def qQ:Go.Shelf.Ren:=⟨fun|189=>48|125=>101|257=>100|128=>177|129=>178|294=>168|295=>169|296=>170|297=>171|298=>172|299=>173|216=>174|300=>175|301=>176|328=>232|329=>233|330=>234|331=>235|332=>236|215=>224|343=>253|n=>n,fun|28=>32|3=>3|46=>172|0=>0|51=>154|53=>241|4=>4|183=>233|182=>232|131=>237|5=>5|9=>9|218=>275|222=>279|228=>291|229=>219|n=>n,fun|n=>n⟩
theorem qh:Go.Proofs.Lays.n189 prog qQ:= {
 mixed:=by kernel_rfl
 f125:=func101.trans (congrArg some (by kernel_rfl))
 f128:=func177.trans (congrArg some (by kernel_rfl))
 f129:=func178.trans (congrArg some (by kernel_rfl))
 f189:=func48.trans (congrArg some (by kernel_rfl))
 f215:=func224.trans (congrArg some (by kernel_rfl))
 f216:=func174.trans (congrArg some (by kernel_rfl))
 f257:=func100.trans (congrArg some (by kernel_rfl))
 f294:=func168.trans (congrArg some (by kernel_rfl))
 f295:=func169.trans (congrArg some (by kernel_rfl))
 f296:=func170.trans (congrArg some (by kernel_rfl))
 f297:=func171.trans (congrArg some (by kernel_rfl))
 f298:=func172.trans (congrArg some (by kernel_rfl))
 f299:=func173.trans (congrArg some (by kernel_rfl))
 f300:=func175.trans (congrArg some (by kernel_rfl))
 f301:=func176.trans (congrArg some (by kernel_rfl))
 f328:=func232.trans (congrArg some (by kernel_rfl))
 f329:=func233.trans (congrArg some (by kernel_rfl))
 f330:=func234.trans (congrArg some (by kernel_rfl))
 f331:=func235.trans (congrArg some (by kernel_rfl))
 f332:=func236.trans (congrArg some (by kernel_rfl))
 f343:=func253.trans (congrArg some (by kernel_rfl))
 t0:=underlying0
 a0:=isAgg0
 z0:=sizeOf0
 v0:=zeroValue0
 t3:=underlying3
 a3:=isAgg3
 z3:=sizeOf3
 v3:=zeroValue3
 t4:=underlying4
 a4:=isAgg4
 z4:=sizeOf4
 v4:=zeroValue4
 t5:=underlying5
 a5:=isAgg5
 z5:=sizeOf5
 v5:=zeroValue5
 t9:=underlying9
 a9:=isAgg9
 z9:=sizeOf9
 v9:=zeroValue9
 t28:=underlying32
 a28:=isAgg32
 z28:=sizeOf32
 v28:=zeroValue32
 t46:=underlying172
 a46:=isAgg172
 z46:=sizeOf172
 v46:=zeroValue172
 t51:=underlying154
 a51:=isAgg154
 z51:=sizeOf154
 v51:=zeroValue154
 t53:=underlying241
 a53:=isAgg241
 z53:=sizeOf241
 v53:=zeroValue241
 t131:=underlying237
 a131:=isAgg237
 z131:=sizeOf237
 v131:=zeroValue237
 t182:=underlying232
 a182:=isAgg232
 z182:=sizeOf232
 v182:=zeroValue232
 t183:=underlying233
 a183:=isAgg233
 z183:=sizeOf233
 v183:=zeroValue233
 t218:=underlying275
 a218:=isAgg275
 z218:=sizeOf275
 v218:=zeroValue275
 t222:=underlying279
 a222:=isAgg279
 z222:=sizeOf279
 v222:=zeroValue279
 t228:=underlying291
 a228:=isAgg291
 z228:=sizeOf291
 v228:=zeroValue291
 t229:=underlying219
 a229:=isAgg219
 z229:=sizeOf219
 v229:=zeroValue219}
open Go.Sort Go.RowKit in
theorem Tryz.slices_Sort_int (blk off cap:Nat) (zs:List Int) (w:World) (hH:Holds (Value.int .i64) w blk off zs.toArray) (hblk:blk<w.heap.size) (hsz:zs.length<4611686018427387904) :
  Calls prog 48 #[.slice (some ⟨blk,off,none⟩) zs.length cap] w fun e w' =>
   e= .returned (.tuple #[])/\ ∃n os,w'=grow (putRow (Value.int .i64) (Sort.ahead w n) blk off (zs.mergeSort fun x y=>decide (x<=y)).toArray) os:=Any.slices_Sort_int qh blk off cap zs w hH hblk hsz
def qg:Go.Shelf.Ren:=⟨fun|17=>266|15=>276|20=>284|n=>n,fun|9=>9|23=>295|4=>4|3=>3|0=>0|21=>21|n=>n,fun|n=>n⟩
theorem uU:Go.Proofs.LaysGw.n17 prog qg:= {
 mixed:=by kernel_rfl
 f15:=func276.trans (congrArg some (by kernel_rfl))
 f17:=func266.trans (congrArg some (by kernel_rfl))
 f20:=func284.trans (congrArg some (by kernel_rfl))
 t0:=underlying0
 a0:=isAgg0
 z0:=sizeOf0
 v0:=zeroValue0
 i0:=by kernel_rfl
 t3:=underlying3
 a3:=isAgg3
 z3:=sizeOf3
 v3:=zeroValue3
 i3:=by kernel_rfl
 t4:=underlying4
 a4:=isAgg4
 z4:=sizeOf4
 v4:=zeroValue4
 i4:=by kernel_rfl
 t9:=underlying9
 a9:=isAgg9
 z9:=sizeOf9
 v9:=zeroValue9
 i9:=by kernel_rfl
 t21:=underlying21
 a21:=isAgg21
 z21:=sizeOf21
 v21:=zeroValue21
 i21:=by kernel_rfl
 t23:=underlying295
 a23:=isAgg295
 z23:=sizeOf295
 v23:=zeroValue295
 i23:=by kernel_rfl}
open Go.RowKit Go.Lib in
theorem Tryz.strings_ContainsFunc_grows (g:Nat) (lb:Array Value) (eg: ∀args w,(callFunc g args).run prog w= .ok (.enter g args) w) (p:Nat->Bool) (s:ByteArray) (w:World) (hp:PredGrows prog g lb p w) :
  Calls prog 266 #[.string s,.func (.func g) #[] lb] w fun e w'=>e= .returned (.bool (decide (0<=Lib.idxFunc p true s)))/\Below w.heap.size w w':=Any.strings_ContainsFunc_grows uU g lb eg p s w hp
open Go.RowKit Go.Sort in
theorem Tryz.slices_Sort_int_none (p:Option Addr) (cap:Nat) (w:World) :
  Calls prog 48 #[.slice p 0 cap] w fun e w'=>e= .returned (.tuple #[])/\w'=w:=Any.slices_Sort_int_none qh p cap w
end Go.Proofs
namespace Go.Proofs.YtobaafdejnimkaaGreatDoor
open Tryz
open Go.PF Go.RowKit Go.Ord
attribute [local irreducible] TW CW KW DW
variable {w:World} {gf:FuncId} {cap:List Value} {own:Nat->Prop} {Pos:List Int->Int->Prop} {Done:List Int->Prop}
theorem iT {n D:Nat} {w0:World} {o:Obj} (h:Below n w0 w) (hD:n<=D):Below n w0 (w.putObj D o) :=
 ⟨h.os,h.tape,h.output,by simpa [World.putObj] using h.size,fun i hi=>(World.putObj_heap_other (by omega)).trans (h.block i hi)⟩
theorem Fa {v:Value} {xs:List Int} (h:OwnS w 3 1 v xs.length (xs.map (Value.int .i64))) (hn:xs.length<4611686018427387904) :
  Gives prog 48 #[v] w fun _ w'=>w.grownBy w' v.ownBlock/\OwnS w' 3 1 v xs.length ((xs.mergeSort fun x y=>decide (x<=y)).map (Value.int .i64)):=by
 rcases h.2 with ⟨rfl,h0⟩|⟨g,cap,cur,rfl,hg,hh,h1,h2,h3,h4⟩
 ·have hx:xs= []:=List.eq_nil_of_length_eq_zero h0;subst hx;refine (Tryz.slices_Sort_int_none none 0 w).mono ?_;rintro e w' ⟨rfl,rfl⟩;exact ⟨_,rfl,⟨rfl,rfl,rfl,ZC,fun _ _ _=>rfl⟩,by simpa using OwnS.nil w' _ 1⟩
 ·have hH:=holds_of_blockI (ss:=xs) hh (by rw [Nat.mul_one] at h4; exact h4);refine (Tryz.slices_Sort_int g 0 cap xs w hH (Array.getElem?_eq_some_iff.1 hh).1 hn).mono ?_;rintro e w' ⟨rfl,n,os,rfl⟩;exact ⟨_,rfl,grownBy_sortedI _,ownsRow_sortedI (by simp [List.length_mergeSort]) hg hh h1 h2 h3⟩
def A7 (ks:List Int) (pre:List Int) (x:Int):Prop:=(pre++ [x]).Nodup/\ ∀y∈pre++ [x],y∈ks
def G4 (ks:List Int) (xs:List Int):Prop:=xs.Nodup/\ ∀y,y∈xs↔y∈ks
theorem D4 {g bm:Nat} {m:List (Int×Value)} (hg:Blk w g 206 [.map (some bm)]) (hm:MapL jI w bm m) :
  IterOK prog 219 [.pointer (some ⟨g,0,none⟩)] (fun x:Int=> [.int .i64 x]) (A7 (m.map (·.1))) (G4 (m.map (·.1))) (fun k=>k=g∨k=bm) w:=by
 intro yl J Jx W M hown hsz hyl hM hMlt hJ hJx hy h0;have hgW:Blk W g 206 [.map (some bm)]:=(hown g (.inl rfl) hg.lt).trans hg;have hmW:MapL jI W bm m:=hm.kept (hown bm (.inr rfl) hm.lt);have hkn:=hm.keys;refine gv (f:=219) ?_;refine ag ?_;refine aj rfl (hgW.cell 0) ?_;refine wu jI rfl rfl underlying206 rfl hmW ?_;rintro it w1 hit hw1 hb1 hwk;refine ag ?_;refine lM (fun x:List Int×(Nat->Prop)×Option (Int×Value)=> [(0,none,.func (.yield yl) #[] #[]),(5,none,.pointer (some ⟨it,0,none⟩))])
  (fun x W'=>J x.1 x.2.1 W'/\WalkM jI W' it bm m x.1 x.2.2/\W.heap.size<W'.heap.size/\(∀k,x.2.1 k->k<W'.heap.size)/\ ¬x.2.1 it/\ ¬x.2.1 bm/\x.1.Nodup/\ ∀y∈x.1,y∈m.map (·.1))
  (fun x=>m.length-x.1.length) ([],M,none) [0,5]
  ⟨hJ _ _ _ _ h0 (.of_below hb1),hwk,by show W.heap.size<w1.heap.size; omega,fun k hk=>by have:=hMlt k hk; show k<w1.heap.size; omega,fun h=>by have:=hMlt _ h; omega,(hM bm (.inr rfl)).1,List.nodup_nil,fun y hy=>by cases hy⟩ rfl ?_
 rintro ⟨pre,M1,lst⟩ W1 ⟨hj,hwk1,hsz1,hM1,hMit,hMbm,hnd,hsub⟩;dsimp only at hj hwk1 hM1 hMit hMbm hnd hsub hsz1;refine ag ?_;refine zI jI rfl rfl rfl hwk1 (fun hall=> ?_) (fun k v w2 hkv hkn' hs2 hbut2 hext2 hwk2=> ?_)
 ·skip
  refine ag ?_;refine au rfl (fun h1=> ?_) (fun h2=> ?_)
  ·exact absurd h1 (by simp)
  ·refine ag ?_;refine ul results219 (.inl ⟨pre,M1,⟨hnd,fun y=>⟨fun h=>hsub y h,fun h=> ?_⟩⟩,hj⟩);rw [List.mem_map] at h;obtain ⟨p,hp,rfl⟩:=h;exact hall p hp
 ·skip
  refine ag ?_;refine au rfl (fun h1=> ?_) (fun h2=> ?_)
  ·refine ag ?_;refine ww jI rfl rfl rfl hwk2 ?_;refine ag ?_;have hpos:A7 (m.map (·.1)) pre k:=by
    refine ⟨List.nodup_append.2 ⟨hnd,by simp,fun a ha b hb e=> ?_⟩,fun y hy=> ?_⟩
    ·rw [List.mem_singleton] at hb;subst hb;subst e;exact hkn' ha
    ·rcases ZH hy with h|h
     ·exact hsub y h
     ·rw [List.mem_singleton] at h;subst h;exact List.mem_map.2 ⟨(y,v),hkv,rfl⟩
   have hj2:J pre M1 w2:=hJ _ _ _ _ hj (hext2.less (by omega));refine lI rfl rfl rfl (aa rfl ct ah) (hy pre k M1 w2 hj2 hpos (fun q hq=>by have:=hM1 q hq; omega) (by omega)) ?_;rintro yb W3 hR;refine ag ?_;refine au rfl (fun hno=> ?_) (fun hgo=> ?_)
   ·refine ag ?_;refine Le results219 (.inr ?_);obtain ⟨M',hx⟩:=hR.no (by simpa using hno);exact ⟨_,M',hx⟩
   ·refine ag ?_;obtain ⟨M',hj3,hm3⟩:=hR.yes (by simpa using hgo);have hitlt:it<w2.heap.size:=by obtain ⟨o,ho,_⟩:=hwk2.iter; exact (Array.getElem?_eq_some_iff.1 ho).1
    have hbmlt:bm<w2.heap.size:=by have:=hmW.lt; omega
    refine IK (pre++ [k],M',some (k,v)) [0,5] rfl ⟨hj3,hwk2.kept (hR.kept it hitlt hMit (by omega)) (hR.kept bm hbmlt hMbm (hM bm (.inr rfl)).2),by have:=hR.size; show W.heap.size<W3.heap.size; omega,fun q hq=>(hm3 q hq).2,fun h=> ?_,fun h=> ?_,hpos.1,hpos.2⟩ ?_
    ·rcases (hm3 _ h).1 with h|h
     ·exact hMit h
     ·omega
    ·rcases (hm3 _ h).1 with h|h
     ·exact hMbm h
     ·omega
    ·have hle:=gL (l:=pre++ [k]) (k:=m.map (·.1)) hpos.1 hpos.2;show m.length-(pre++ [k]).length<m.length-pre.length;simp at hle ⊢;omega
  ·exact absurd h2 (by simp)
theorem Ls {bm:Nat}:Gives prog 149 #[.map (some bm)] w fun u w'=>Below w.heap.size w w'/\ ∃g,u= .func (.func 219) #[] [.pointer (some ⟨g,0,none⟩)].toArray/\Blk w' g 206 [.map (some bm)]:=by
 refine gv (f:=149) ?_;refine ag ?_;refine aG rfl rfl rfl rfl ?_;rintro g w1 f1;refine ag ?_;refine jw [0,1,2] rfl ?_;refine aN rfl rfl (aa rfl ct ah) ?_;refine ag ?_;refine aW rfl ⟨f1.below,g,rfl,f1.blk⟩
theorem IterOK.later {α:Type} {enc:α->List Value} {Pos:List α->α->Prop} {Done:List α->Prop} {w':World} (h:IterOK prog gf cap enc Pos Done own w) (hb:Below w.heap.size w w'):IterOK prog gf cap enc Pos Done own w':=by
 intro l J Jx W M h1 h2;exact h l J Jx W M (fun k hk hlt=>(h1 k hk (Nat.lt_of_lt_of_le hlt hb.size)).trans (hb.block k hlt)) (Nat.le_trans hb.size h2)
theorem zy (hit:IterOK prog gf cap (fun x:Int=> [.int .i64 x]) Pos Done own w) (hen:enters prog gf=true) (hown: ∀k,own k->k<w.heap.size) (hbd: ∀pre x,Pos pre x->pre.length<=1000000000) :
  Gives prog 243 #[.slice none 0 0,.func (.func gf) #[] cap.toArray] w fun v w'=>Below w.heap.size w w'/\ ∃xs,Done xs/\OwnS w' 3 1 v xs.length (xs.map (Value.int .i64))/\ ∀g,v.ownBlock=some g->w.heap.size<=g:=by
 refine LX (f:=243) ?_;refine ag ?_;refine aG rfl rfl rfl rfl ?_;rintro g2 w1 f1;refine ag ?_;have hg2:=f1.at_;have hs1:=f1.size;refine IR rfl hen (IterOK.later hit f1.below) rfl (fun _=>rfl)
  (fun pre M W=>Below w.heap.size w W/\ ∃vf,Blk W g2 32 [vf]/\OwnS W 3 1 vf pre.length (pre.map (Value.int .i64))/\(∀q,vf.ownBlock=some q->w1.heap.size<=q)/\M=fun k=>k=g2∨vf.ownBlock=some k)
  (fun c pre M W=>False) (fun k=>k=g2)
  (fun k hk=>by subst hk; exact ⟨by omega,fun h=>by have:=hown _ h; omega⟩) (fun k hk=>by have:=hown k hk; omega)
  (fun pre M W1 W2 ⟨a1,vf,a2,a3,a4,a5⟩ hx=>⟨(hx.less (by omega)).below a1 ZC,vf,a2.ext hx,a3.ext hx,a4,a5⟩)
  (fun c pre M W1 W2 h hx=>h)
  ⟨f1.below,.slice none 0 0,f1.blk,OwnS.nil _ _ _,fun q hq=>by simp [Value.ownBlock] at hq,by funext k; simp [Value.ownBlock]⟩ ?_ ?_ ?_
 ·rintro D L pre p M W hD hL ⟨a1,vf,a2,a3,a4,rfl⟩ hpos hMlt hML hMD hrec;have hpl:=hbd pre p hpos;refine ag ?_;refine lJ hrec fun W2 hx hsz hk hrec2=> ?_;have a2':Blk W2 g2 32 [vf]:=a2.ext hx;have a3':=a3.ext hx;have a1':Below w.heap.size w W2:=(hx.less (by omega)).below a1 ZC;refine ag ?_;refine aj rfl (a2'.cell 0) ?_;refine ag ?_;refine ak 3 _ rfl rfl rfl gQ (aa rfl ct ah) rfl rfl rfl rfl rfl ?_;rintro g3 w3 f3;have o3:=a3'.below f3.below;refine aK [.int .i64 p] rfl rfl lF rfl o3 rfl rfl (fun j v hj=>⟨⟨g3,0,none⟩,rfl,f3.blk.fld hj⟩) (fun v hv=>by simp at hv; subst hv; rfl) (by omega) (by omega) ?_;rintro vf' w4 o4 hg4 hn4;have s3:=f3.below.size;have hL2:L<W2.heap.size:=hrec2.lt;have hvlt: ∀q,vf.ownBlock=some q->q<W2.heap.size:=fun q hq=>a3'.lt hq;have hLv:vf.ownBlock≠some L:=fun e=>hML (.inr e);have hDv:vf.ownBlock≠some D:=fun e=>hMD (.inr e);have hLg:L≠g2:=fun e=>hML (.inl e);have hDg:D≠g2:=fun e=>hMD (.inl e);have b4:Blk w4 g2 32 [vf]:=Blk.keptO (a2'.next f3.below) hg4 (fun e=>by have:=a4 _ e; omega);obtain ⟨A4,c4,hv4,_⟩:=o4.form;have h14:vf'.oneCell'=true:=by rw [hv4]; rfl
  refine gU rfl is32.q rfl rfl (b4.cell 0) (b4.frozen 0) h14 ?_;refine ag ?_;have rec4:w4.heap[L]?=W2.heap[L]?:=(hg4.block L (by omega) (fun e=>hLv e.symm)).trans (f3.below.block L hL2);have hw4:Below w.heap.size w w4:=(a1'.step f3.below).grown hg4 (a1'.step f3.below).size (fun q hq=>by have:=a4 q hq; omega);have hsz4:W2.heap.size<=w4.heap.size:=Nat.le_trans s3 hg4.size;have hnew: ∀q,vf'.ownBlock=some q->vf.ownBlock=some q∨q=w3.heap.size:=fun q hq=>by
   rcases hn4 with h|h
   ·exact .inl (by rw [<-h]; exact hq)
   ·rw [h] at hq; cases hq; exact .inr rfl
  have hw1:w1.heap.size<=W2.heap.size:=by omega
  have o5:OwnS (w4.setCell ⟨g2,0,none⟩ vf') 3 1 vf' (pre.length+1) (pre.map (Value.int .i64)++ [.int .i64 p]):=o4.kept fun q hq=>Below.heap_setCell _ _ _ _ (fun e=>by
   have e:q=g2:=e;rcases hnew q hq with h|h
   ·have:=a4 q h; omega
   ·omega)
  refine jL (hrec2.kept ((Below.heap_setCell _ _ _ _ (by show L≠g2; exact hLg)).trans rec4)) fun W5 hx5 hsz5 hk5 hrec5=> ?_;have hs5:W5.heap.size=w4.heap.size:=by rw [hsz5]; simp
  refine ⟨by omega,fun k hk1 hk2 hk3=> ?_,fun _=>⟨fun k=>k=g2∨vf'.ownBlock=some k,⟨⟨(hx5.less (by omega)).below (hw4.setCell (by show w.heap.size<=g2; omega) _) ZC,vf',(b4.set 0 vf').ext hx5,by simpa using o5.ext hx5,fun q hq=> ?_,rfl⟩,fun h=> ?_,fun h=> ?_,hrec5⟩,fun k hk=> ?_⟩,fun h=>by cases h⟩
  ·refine (hk5 k hk3).trans ((Below.heap_setCell _ _ _ _ (fun e=>hk2 (.inl e))).trans ((hg4.block k (by omega) (fun e=>hk2 (.inr e.symm))).trans ((f3.below.block k (by omega)).trans (hk k hk3))))
  ·rcases hnew q hq with h|h
   ·exact a4 q h
   ·omega
  ·rcases h with h|h
   ·exact hLg h
   ·rcases hnew L h with h|h
    ·exact hLv h
    ·omega
  ·rcases h with h|h
   ·exact hDg h
   ·rcases hnew D h with h|h
    ·exact hDv h
    ·omega
  ·rcases hk with rfl|hk
   ·exact ⟨.inl (.inl rfl),by omega⟩
   ·rcases hnew k hk with h|h
    ·exact ⟨.inl (.inr h),by have:=hvlt k h; omega⟩
    ·refine ⟨.inr (by omega),?_⟩;have:=o4.lt hk;omega
 ·rintro D xs M W hD hdone ⟨a1,vf,a2,a3,a4,rfl⟩ hdef;refine bP (aD ?_);refine ag ?_;refine aj rfl (a2.cell 0) ?_;refine ag ?_;have hgD:g2≠D:=fun e=>by subst e; unfold Blk at a2; rw [hdef] at a2; cases a2
  refine Cf results243 rfl hdef ⟨iT a1 (by omega),xs,hdone,a3.kept fun q hq=>World.putObj_heap_other (fun e=> ?_),fun q hq=>by have:=a4 q hq; omega⟩;subst e;rcases a3.2 with ⟨rfl,_⟩|⟨g',cap',cur,hv,_,hh,_⟩
  ·simp [Value.ownBlock] at hq
  ·rw [hv] at hq;simp [Value.ownBlock] at hq;subst hq;rw [hdef] at hh;cases hh
 ·rintro D c pre M W hD h;exact h.elim
theorem Em (hit:IterOK prog gf cap (fun x:Int=> [.int .i64 x]) Pos Done own w) (hen:enters prog gf=true) (hown: ∀k,own k->k<w.heap.size) (hbd: ∀pre x,Pos pre x->pre.length<=1000000000) :
  Gives prog 218 #[.func (.func gf) #[] cap.toArray] w fun v w'=>Below w.heap.size w w'/\ ∃xs,Done xs/\OwnS w' 3 1 v xs.length (xs.map (Value.int .i64))/\ ∀g,v.ownBlock=some g->w.heap.size<=g:=by
 refine gv (f:=218) ?_;refine ag ?_;refine aA rfl (zy hit hen hown hbd) ?_;rintro y1 w1 h1;refine ag ?_;refine aW rfl (h1)
theorem E9 (hit:IterOK prog gf cap (fun x:Int=> [.int .i64 x]) Pos Done own w) (hen:enters prog gf=true) (hown: ∀k,own k->k<w.heap.size) (hbd: ∀pre x,Pos pre x->pre.length<=1000000000) (hdb: ∀xs,Done xs->xs.length<=1000000000) :
  Gives prog 148 #[.func (.func gf) #[] cap.toArray] w fun v w'=>Below w.heap.size w w'/\ ∃xs,Done xs/\OwnS w' 3 1 v xs.length ((xs.mergeSort fun x y=>decide (x<=y)).map (Value.int .i64))/\ ∀g,v.ownBlock=some g->w.heap.size<=g:=by
 refine gv (f:=148) ?_;refine ag ?_;refine aA rfl (Em hit hen hown hbd) ?_;rintro y1 w1 ⟨hb1,xs,hd,hO,hg⟩;refine ag ?_;have hxl:xs.length<4611686018427387904:=by have:=hdb xs hd; omega
 refine aA rfl (Fa hO hxl) ?_;rintro y2 w2 ⟨hg2,hO2⟩;refine ag ?_;refine aW rfl ⟨hb1.grown hg2 hb1.size hg,xs,hd,hO2,hg⟩
def NT (w:World) (b:Nat) (S:List Int) (T:Int):Prop:= ∃m,MapL jI w b m/\(∀x,x∈m.map (·.1)↔x∈S)/\ ∀p∈m,∃c:Int,p.2= .int .i64 c/\0<=c/\c<=T
theorem xY {v:Value} {l:List Ev} (hl:SE w v l) (hsm:l.length<=1000) (hne: ∀e∈l,e.needs.length<=1000) :
  Gives prog 77 #[v] w fun x w'=>Below w.heap.size w w'/\OwnS w' 3 1 x (dS l).length ((dS l).map (Value.int .i64))/\ ∀g,x.ownBlock=some g->w.heap.size<=g:=by
 obtain ⟨A,cap,rfl,_⟩:=hl.form;refine gv (f:=77) ?_;refine ag ?_;refine jy jI rfl rfl ?_;rintro b w1 hbw hw1 hb1 hM1;refine ag ?_;refine aJ [3,9,10] (fun i:Nat=> [(11,none,.int .i64 (i:Int))])
  (fun i W=>i<=l.length/\But b w1 W/\NT W b (iK (l.take i)) (i*1000)) (fun i=>l.length-i) 0 ⟨ZB,But.of_below ZA,[],hM1,fun x=>by simp [iK],fun p hp=>by cases hp⟩ ?_
 rintro i W ⟨hi,hbut,hC⟩;have hbW:Below w.heap.size w W:=But.below hb1 hbut (by omega);refine ag ?_;refine aI [3,9,10,11,12] rfl ?_;refine ai rfl (fun hlt=> ?_) (fun hge=> ?_)
 ·have hil:i<l.length:=by omega
  have hlW:=aY hl hbW;obtain ⟨ad,rfl⟩:=hlW.addr (by omega);obtain ⟨e,he⟩: ∃e,l[i]?=some e:=⟨l[i],ZD hil⟩;obtain ⟨nv,hcells,i1,i2,i3,hneeds⟩:=SE.get hlW he;obtain ⟨C,ncap,rfl,_⟩:=hneeds.form;have hnl:=hne e (ZF he);refine ag ?_;refine aF rfl (hcells) ?_;refine aM rfl nY rfl is60.q rfl rfl ?_;rintro g2 w2 f2;refine ag ?_;refine aj rfl (f2.blk.fld rfl) ?_;refine ag ?_;refine aJ [3,9,10,11,16,17] (fun j:Nat=> [(18,none,.int .i64 (j:Int))])
   (fun j W'=>j<=e.needs.length/\But b w1 W'/\But b w2 W'/\NT W' b (iK (l.take i)++e.needs.take j) (i*1000+j)) (fun j=>e.needs.length-j) 0 ⟨ZB,hbut.step f2.below,But.of_below ZA,?_⟩ ?_
  ·obtain ⟨m,h1,h2,h3⟩:=hC;exact ⟨m,h1.below f2.below,by simpa using h2,by simpa using h3⟩
  rintro j W' ⟨hj,hbut1,hbut2,m,hm,hmk,hmv⟩;have hbW':Below w.heap.size w W':=But.below hb1 hbut1 (by omega);refine ag ?_;refine ai rfl (fun hlt2=> ?_) (fun hge2=> ?_)
  ·have hjl:j<e.needs.length:=by omega
   have hn':SL bC (fun k=>k<w.heap.size) W' (.slice C e.needs.length ncap) e.needs:=by
    obtain ⟨nv',hcells',_,_,_,hneeds'⟩:=SE.get hl he;have hcw:=hcells' 3 nv' rfl;have hcW:=(hbW.cell (block_lt_of_cell hcw)).trans hcw;have:=hcells 3 _ rfl;rw [hcW] at this;cases this;exact hneeds'.below hbW'
   obtain ⟨ad2,rfl⟩:=hn'.addr (by omega);have hx:e.needs[j]?=some e.needs[j]:=ZD hjl;refine ag ?_;refine aj rfl (hn'.getI hx) ?_;refine ag ?_;refine mf jI e.needs[j] rfl rfl underlying206 EO rfl rfl hm ?_;rintro vc hvc;obtain ⟨c,rfl,hc0,hc1⟩: ∃c:Int,vc= .int .i64 c/\0<=c/\c<=i*1000+j:=by
    rcases hvc with h|⟨_,rfl⟩
    ·exact hmv _ h
    ·exact ⟨0,rfl,by omega,by omega⟩
   refine ag ?_;refine fV jI e.needs[j] rfl underlying206 rfl rfl rfl hm ?_;rintro w4 hs4 hbut4 hM4;refine ag ?_;refine aC (j+1) ⟨by omega,hbut1.trans hbut4,hbut2.trans hbut4,_,hM4,fun x=> ?_,fun p hp=> ?_⟩
   ·rw [ZG,hx,<-List.append_assoc,List.mem_append,<-hmk x,List.mem_map,List.mem_map];constructor
    ·rintro ⟨p,hp,rfl⟩;rcases mem_lput.1 hp with rfl|⟨h,_⟩
     ·exact .inr (by simp)
     ·exact .inl ⟨p,h,rfl⟩
    ·rintro (⟨p,hp,rfl⟩|h)
     ·by_cases hpe:p.1=e.needs[j]
      ·exact ⟨_,mem_lput.2 (.inl rfl),hpe.symm⟩
      ·exact ⟨p,mem_lput.2 (.inr ⟨hp,hpe⟩),rfl⟩
     ·simp at h;exact ⟨_,mem_lput.2 (.inl rfl),h.symm⟩
   ·rcases mem_lput.1 hp with rfl|⟨h,_⟩
    ·exact ⟨c+1,rfl,by omega,by omega⟩
    ·obtain ⟨c',h1,h2,h3⟩:=hmv p h;exact ⟨c',h1,h2,by omega⟩
  ·refine ag ?_;refine aC (i+1) ⟨by omega,hbut1,m,hm,fun x=> ?_,fun p hp=> ?_⟩
   ·rw [hmk x,show j=e.needs.length by omega,List.take_length,ZG,he];simp [iK,List.flatMap_append]
   ·obtain ⟨c',h1,h2,h3⟩:=hmv p hp;exact ⟨c',h1,h2,by omega⟩
 ·obtain ⟨m,hm,hmk,hmv⟩:=hC;rw [show i=l.length by omega,List.take_length] at hmk;have hmlen:m.length<=1000000:=by
   have h1:=gL (l:=m.map (·.1)) (k:=iK l) hm.keys (fun x hx=>(hmk x).1 hx);have h2: ∀(q:List Ev),(∀e∈q,e.needs.length<=1000)->(iK q).length<=q.length*1000:=by
    intro q
    induction q with
    | nil=>intro _; simp [iK]
    | cons a q ih =>
     intro hq;have:=ih (fun e he=>hq e (by simp [he]));have h3:=hq a (by simp);unfold iK at this ⊢;simp only [List.flatMap_cons,List.length_append,List.length_cons];omega
   have:=h2 l hne;simp at h1;omega
  refine ag ?_;refine aA rfl (Ls) ?_;rintro y5 w5 ⟨hb5,g5,rfl,hB5⟩;have q1: ∀k,(k=g5∨k=b)->k<w5.heap.size:=fun k hk=>by
   rcases hk with rfl|rfl
   ·exact hB5.lt
   ·exact (hm.below hb5).lt
  have q2: ∀pre x,A7 (m.map (·.1)) pre x->pre.length<=1000000000:=fun pre x hp=>by
   have:=gL (l:=pre++ [x]) (k:=m.map (·.1)) hp.1 hp.2;simp at this;omega
  have q3: ∀xs,G4 (m.map (·.1)) xs->xs.length<=1000000000:=fun xs hx=>by
   have:=gL (l:=xs) (k:=m.map (·.1)) hx.1 (fun y hy=>(hx.2 y).1 hy);simp at this;omega
  refine aA rfl (E9 (D4 hB5 (hm.below hb5)) ie219.q q1 q2 q3) ?_;rintro y6 w6 ⟨hb6,xs,hxs,hO6,hg6⟩;have hrec:dS l=xs.mergeSort fun x y=>decide (x<=y):=by
   refine CB (nJ l) (tY hxs.1) (fun x=> ?_);rw [List.mem_mergeSort,hxs.2 x,hmk x,mem_recsS];unfold iK;rw [List.mem_flatMap]
  refine ag ?_;refine aW rfl ⟨(hbW.step hb5).step hb6,?_,fun q hq=>by have:=hg6 q hq; have:=hb5.size; have:=hbW.size; omega⟩;rw [hrec,List.length_mergeSort];exact hO6
end Go.Proofs.YtobaafdejnimkaaGreatDoor
namespace Go.PF
open Go.RowKit
section
variable {P:Program} {r:Option Nat} {Q:Exit->Act->World->Prop} {N:Nat} {ds:List Deferred}
theorem EK {α:Type} {c:Code} {E0:Env} {w:World} (Dd:α->List Deferred) (E:α->Env) (J:α->World->Prop) (m:α->Nat) (x0:α) (h0:J x0 w) (hE: ∀a,Fit N ds E0 a->Fit N (Dd x0) (E x0) a)
  (round: ∀x w,J x w->CW P r (Exit.then (fun a' w'=> ∃x',Fit N (Dd x') (E x') a'/\J x' w'/\m x'<m x) Q) N (Dd x) c (E x) w):CW P r Q N ds (.loop c) E0 w:=by
 classical
 intro a ha
 let I:Act->World->Prop:=fun a w=> ∃x,Fit N (Dd x) (E x) a/\J x w
 let M:Act->World->Nat->Prop:=fun a w n=> ∃x,Fit N (Dd x) (E x) a/\J x w/\m x=n
 have hex: ∀a w,I a w-> ∃n,M a w n/\ ∀k,M a w k->n<=k:=by
  intro a w ⟨x,h1,h2⟩;have key: ∀k,(∃j,j<=k/\M a w j)-> ∃n,M a w n/\ ∀k,M a w k->n<=k:=by
   intro k
   induction k with
   | zero =>
    rintro ⟨j,hj,hm⟩;have:j=0:=by omega
    subst this
    exact ⟨0,hm,fun k _=>Nat.zero_le k⟩
   | succ k ih =>
    rintro ⟨j,hj,hm⟩;by_cases hk: ∃j,j<=k/\M a w j
    ·exact ih hk
    ·refine ⟨j,hm,fun i hi=> ?_⟩;rcases ZI i j with hlt|hge
     ·exact absurd ⟨i,by omega,hi⟩ hk
     ·exact hge
  exact key (m x) ⟨m x,ZC,x,h1,h2,rfl⟩
 let μ:Act->World->Nat:=fun a w=>if h:I a w then Classical.choose (hex a w h) else 0
 have hμ: ∀a w,I a w-> ∃x,Fit N (Dd x) (E x) a/\J x w/\m x=μ a w:=by
  intro a w h;have:=(Classical.choose_spec (hex a w h)).1;simpa [μ,h] using this
 have hμle: ∀a w x,Fit N (Dd x) (E x) a->J x w->μ a w<=m x:=by
  intro a w x h1 h2;have hI:I a w:=⟨x,h1,h2⟩;have:=(Classical.choose_spec (hex a w hI)).2 (m x) ⟨x,h1,h2,rfl⟩;simpa [μ,hI] using this
 refine wpIn_loop I μ ⟨x0,hE a ha,h0⟩ fun a1 w1 hI=> ?_;obtain ⟨x,h1,h2,h3⟩:=hμ a1 w1 hI;refine wpIn_mono (round x w1 h2 a1 h1) fun e a2 w2 hq=> ?_
 cases e with
 | normal =>
  obtain ⟨x',q1,q2,q3⟩:=hq
  exact ⟨⟨x',q1,q2⟩,by rw [<-h3]; exact Nat.lt_of_le_of_lt (hμle a2 w2 x' q1 q2) q3⟩
 | _=>exact hq
def AR (D:Nat):Deferred:= {target:= .collected D,args:= #[]}
theorem IU {α:Type} {c:Code} {E:Env} {w:World} (Dd:α->List Deferred) (F:α->Env) (J:α->World->Prop) (m:α->Nat) (x0:α) (is:List Nat) (hD:Dd x0=ds) (h0:J x0 w) (hE:PF.pick E is=some (F x0))
  (round: ∀x w,J x w->CW P r (Exit.then (fun a' w'=> ∃x',Fit N (Dd x') (F x') a'/\J x' w'/\m x'<m x) Q) N (Dd x) c (F x) w):CW P r Q N ds (.loop c) E w :=
 EK Dd F J m x0 h0 (fun _ ha=>by rw [hD]; exact ha.pick hE) round
theorem EF {α:Type} {E:Env} {w:World} {Dd:α->List Deferred} {F:α->Env} {J:α->World->Prop} {m:α->Nat} {x:α} (x':α) (is:List Nat) (hD:Dd x'=ds) (hp:PF.pick E is=some (F x')) (hJ:J x' w) (hm:m x'<m x) :
  KW N ds (Exit.then (fun a' w'=> ∃x',Fit N (Dd x') (F x') a'/\J x' w'/\m x'<m x) Q .normal) E w :=
 fun _ ha=>⟨x',by rw [hD]; exact ha.pick hp,hJ,hm⟩
variable {fn:Func} {R:Value->World->Prop} {E:Env} {w:World}
theorem pP (hres:fn.results= #[]) {tmps:Array Value} {n:Nat}: ∀(Ds:List Nat) (w:World),Ds.Nodup->(∀D∈Ds,n<=D/\w.heap[D]?=some (.deferred (some [])))->(∀w',ExtF n w w'->R (.tuple #[]) w') ->
  LeavesInM (FR none) 0 P fn tmps (fun e w'=> ∃v,e= .returned v/\R v w') (Ds.map AR) .returning w
 | [],w,_,_,hR=>⟨.tuple #[],results_none hres _ _ _,.tuple #[],rfl,hR w (ExtF.refl _ _)⟩
 | D::Ds,w,hn,hD,hR=>by
  have hn':=List.nodup_cons.1 hn;obtain ⟨h1,h2⟩:=hD D (by simp);have hext:ExtF n w (w.putObj D (.deferred none)):=ExtF.putObj h2 rfl h1;refine ⟨by simp,.inl ⟨D,_,rfl,run_takeDeferred h2,?_⟩⟩;refine pP hres Ds _ hn'.2 (fun D' hD'=> ?_) (fun w' hx=>hR w' (hext.trans hx));obtain ⟨h3,h4⟩:=hD D' (by simp [hD']);exact ⟨h3,(World.putObj_heap_other (fun e=>hn'.1 (by rw [<-e]; exact hD'))).trans h4⟩
theorem F4 {n:Nat} (Ds:List Nat) (hres:fn.results= #[]) (hn:Ds.Nodup) (hD: ∀D∈Ds,n<=D/\w.heap[D]?=some (.deferred (some []))) (hR: ∀w',ExtF n w w'->R (.tuple #[]) w') (e:Exit) (he:e= .ret∨e= .normal) :
  KW N (Ds.map AR) (bodyPostM (FR none) 0 P fn (fun e w'=> ∃v,e= .returned v/\R v w') e) E w:=by
 intro a ha;have key:LeavesInM (FR none) 0 P fn a.tmps (fun e w'=> ∃v,e= .returned v/\R v w') a.defers .returning w:=by
  rw [ha.defers];exact pP hres Ds w hn hD hR
 rcases he with rfl|rfl
 ·exact key
 ·exact key
theorem F5 {s t:Nat} {v u:Value} (hres:fn.results= #[.tmp s,.tmp t]) (hs:look E s=some (none,v)) (ht:look E t=some (none,u)) (hR:R (.tuple #[v,u]) w):KW N [] (bodyPostM (FR none) 0 P fn (fun e w'=> ∃v,e= .returned v/\R v w') .ret) E w:=by
 intro a ha;have key:LeavesInM (FR none) 0 P fn a.tmps (fun e w'=> ∃v,e= .returned v/\R v w') a.defers .returning w:=by
  rw [ha.defers];exact ⟨.tuple #[v,u],by rw [results_tmp2 hres a.tmps P w,(ha.slots s none v hs).1 trivial,(ha.slots t none u ht).1 trivial],_,rfl,hR⟩
 exact key
theorem Ks {D s t:Nat} {v u:Value} (hres:fn.results= #[.tmp s,.tmp t]) (hs:look E s=some (none,v)) (ht:look E t=some (none,u)) (hD:w.heap[D]?=some (.deferred (some []))) (hR:R (.tuple #[v,u]) (w.putObj D (.deferred none))) :
  KW N ({target:= .collected D,args:= #[]}:: []) (bodyPostM (FR none) 0 P fn (fun e w'=> ∃v,e= .returned v/\R v w') .ret) E w :=
 Nc (fun a W ha _=>by rw [results_tmp2 hres a.tmps P W,(ha.slots s none v hs).1 trivial,(ha.slots t none u ht).1 trivial]) hD hR .ret (.inl rfl)
end
end Go.PF
namespace Go.Proofs.YtobaafdejnimkaaGreatDoor
open Tryz
open Go.PF Go.RowKit Go.Ord
attribute [local irreducible] TW CW KW DW
theorem IB {α:Type} {T:Ty α} {F:Nat->Prop} {w:World} {A:Option Addr} {n c:Nat} {l:List α} (h:SL T F w (.slice A n c) l) {i:Nat} (hi:i<=l.length):SL T F w (.slice (if c=i then A else A.map (·.add (i*T.n))) (n-i) (c-i)) (l.drop i):=by
 obtain ⟨A',c',hv,h1,h2,h3⟩:=h;simp only [Value.slice.injEq] at hv;obtain ⟨rfl,rfl,rfl⟩:=hv;refine ⟨_,_,by rw [List.length_drop],by rw [List.length_drop]; omega,by rw [List.length_drop]; omega,fun j x hx=> ?_⟩;rw [List.getElem?_drop] at hx;have hlt:=(ZE hx).1;obtain ⟨ad,cs,rfl,hF,hc,hr⟩:=h3 (i+j) x hx;rw [if_neg (by omega)];refine ⟨ad.add (i*T.n),cs,rfl,by rw [add_block]; exact hF,fun k u hu=> ?_,hr⟩;have:=hc k u hu;rw [add_add ad (i*T.n) (j*T.n),<-Nat.add_mul];exact this
def SetsV (b:Nat) (v:Value) (n:Nat) (u:Value) (W:World):Prop:= ∃gs gl,u= .func (.func 150) #[] [.pointer (some ⟨gs,0,none⟩),.pointer (some ⟨gl,0,none⟩)].toArray/\Blk W gs 3 [.int .i64 (n:Int)]/\Blk W gl 32 [v]/\b<=gs/\b<=gl
theorem SetsV.mono (b:Nat) (v:Value) (n:Nat):Ent.mono (.pr (SetsV b v n)):=fun _ _ _ hb ⟨gs,gl,h1,h2,h3,h4⟩=>⟨gs,gl,h1,h2.next hb,h3.next hb,h4⟩
theorem sets_c {w:World} {A:Option Addr} {k c n:Nat}:Gives prog 78 #[.slice A k c,.int .i64 (n:Int)] w fun u w'=>Below w.heap.size w w'/\SetsV w.heap.size (.slice A k c) n u w':=by
 refine gv (f:=78) ?_;refine ag ?_;refine aG rfl rfl rfl rfl ?_;rintro g1 w1 f1;refine aG rfl rfl rfl rfl ?_;rintro g2 w2 f2;refine ag ?_;refine aN rfl rfl (aa rfl ct (aa rfl ct ah)) ?_;refine ag ?_;refine aW rfl ⟨f1.below.step f2.below,g2,g1,rfl,f2.blk,f1.blk.next f2.below,?_,?_⟩
 ·have:=f2.at_; have:=f1.below.size; omega
 ·have:=f1.at_; omega
def Fj (l:List Int) (n:Nat) (w:World) (pre:List (Value×List Int)) (x:Value×List Int) (M:Nat->Prop) (W:World):Prop:=(∃suf,fI l n=pre.map (·.2)++x.2::suf)/\SL bC (fun k=>w.heap.size<=k/\ ¬M k) W x.1 x.2
theorem Dh: ∀(n:Nat) {F:Nat->Prop} {v:Value} {l:List Int} {w:World} {gs gl:Nat},SL bC F w v l->(∀k,F k->k<w.heap.size)->n<=l.length->l.length<=1000->Blk w gs 3 [.int .i64 (n:Int)]->Blk w gl 32 [v] ->
  C4 prog 150 [.pointer (some ⟨gs,0,none⟩),.pointer (some ⟨gl,0,none⟩)] (fun x:Value×List Int=> [x.1]) (Fj l n w) (fun xs=>xs.map (·.2)=fI l n) (fun k=>k=gs∨k=gl∨F k) w:=by
 intro n
 induction n with
 | zero =>
  intro F v l w gs gl hl hF hn hsm hgs hgl yl J Jx W M hown hsz hyl hM hMlt hJ hJx hy h0;have hgsW:Blk W gs 3 [.int .i64 ((0:Nat):Int)]:=(hown gs (.inl rfl) hgs.lt).trans hgs;refine LX (f:=150) ?_;refine ag ?_;refine aG rfl rfl rfl rfl ?_;rintro g3 w1 f1;refine ag ?_;refine aj rfl ((hgsW.next f1.below).cell 0) ?_;refine ag ?_;refine ai rfl (fun h1=> ?_) (fun h2=> ?_)
  ·refine ag ?_;refine aj rfl (f1.blk.cell 0) ?_;refine gJ 3 rfl rfl gQ ?_;rintro g4 w2 f2;have hb2:=f1.below.step f2.below;have hj2:J [] M w2:=hJ _ _ _ _ h0 (.of_below hb2);have hs2:=hb2.size;have hset0:fI l 0= [[]]:=by cases l<;>rfl
   refine lI rfl rfl rfl (aa rfl ct ah) (hy [] (.slice (some ⟨g4,0,none⟩) 0 0,[]) M w2 hj2 ⟨⟨[],by rw [hset0]; rfl⟩,⟨_,_,rfl,ZC,by simp,fun i x hx=>by simp at hx⟩⟩ (fun k hk=>by have:=hMlt k hk; omega) (by omega)) ?_;rintro yb W3 hR;refine ag ?_;refine F4 (n:=W.heap.size) [] results150 List.nodup_nil (fun D hD=>by cases hD) (fun w' hx=> ?_) .ret (.inl rfl)
   cases yb with
   | true =>
    obtain ⟨M',hj3,_⟩:=hR.yes rfl
    exact .inl ⟨_,M',by rw [hset0]; rfl,hJ _ _ _ _ hj3 hx⟩
   | false =>
    obtain ⟨M',hj3⟩:=hR.no rfl;exact .inr ⟨_,M',hJx _ _ _ _ hj3 hx⟩
  ·exact absurd rfl h2
 | succ m ih =>
  intro F v l w gs gl hl hF hn hsm hgs hgl yl J Jx W M hown hsz hyl hM hMlt hJ hJx hy h0;obtain ⟨A,cap,rfl,_⟩:=hl.form;obtain ⟨ad,rfl⟩:=hl.addr (by omega);have mem: ∀W':World,(∀k,(k=gs∨k=gl∨F k)->k<w.heap.size->W'.heap[k]?=w.heap[k]?)->Blk W' gs 3 [.int .i64 ((m+1:Nat):Int)]/\Blk W' gl 32 [.slice (some ad) l.length cap]/\SL bC F W' (.slice (some ad) l.length cap) l:=fun W' h =>
   ⟨(h gs (.inl rfl) hgs.lt).trans hgs,(h gl (.inr (.inl rfl)) hgl.lt).trans hgl,hl.mono (bn fun k hk hlt=>h k (.inr (.inr hk)) hlt)⟩
  obtain ⟨m1,m2,m3⟩:=mem W hown;refine LX (f:=150) ?_;refine ag ?_;refine aG rfl rfl rfl rfl ?_;rintro g3 w1 f1;refine ag ?_;have hg3:=f1.at_;have hs1:=f1.size;refine aj rfl ((m1.next f1.below).cell 0) ?_;refine ag ?_;refine ai rfl (fun h1=> ?_) (fun h2=> ?_)
  ·exfalso;omega
  refine ag ?_;refine aj rfl ((m2.next f1.below).cell 0) ?_;refine ag ?_;refine aj rfl ((m1.next f1.below).cell 0) ?_;refine ag ?_;refine aI [0,1,2,3,15,16] rfl ?_;refine IU (fun x:Nat×List (Value×List Int)×(Nat->Prop)×List Nat=>x.2.2.2.map AR) (fun x=> [(1,none,.pointer (some ⟨gs,0,none⟩)),(2,none,.pointer (some ⟨gl,0,none⟩)),(3,none,.pointer (some ⟨g3,0,none⟩)),(15,none,.int .i64 ((l.length:Int)-((m+1:Nat):Int)+1)),(16,none,.int .i64 (x.1:Int))])
   (fun x W'=>J x.2.1 x.2.2.1 W'/\x.1<=l.length-m/\x.2.1.map (·.2)=ic l m x.1/\w1.heap.size<=W'.heap.size/\(∀k,x.2.2.1 k->k<W'.heap.size)/\(∀k,(k=gs∨k=gl∨F k)->k<w.heap.size->W'.heap[k]?=w.heap[k]?/\ ¬x.2.2.1 k)/\Blk W' g3 103 [.func (.yield yl) #[] #[]]/\ ¬x.2.2.1 g3/\x.2.2.2.Nodup /\
    ∀ D∈x.2.2.2,w1.heap.size<=D/\W'.heap[D]?=some (.deferred (some []))/\ ¬x.2.2.1 D) (fun x=>l.length-m-x.1)
   (0,[],M,[]) [1,2,3,15,16] rfl ⟨hJ _ _ _ _ h0 (.of_below f1.below),ZB,rfl,ZC,fun k hk=>by have:=hMlt k hk; show k<w1.heap.size; omega,fun k hk hlt=>⟨(f1.below.block k (by omega)).trans (hown k hk hlt),(hM k hk).1⟩,f1.blk,fun h=>by have:=hMlt _ h; omega,List.nodup_nil,fun D hD=>by cases hD⟩ rfl ?_
  rintro ⟨i,pre,M1,Ds⟩ W1 ⟨hj,hi,hpre,hsz1,hM1,hk1,hB3,hM3,hnd,hDs⟩;dsimp only at hj hi hpre hsz1 hM1 hk1 hB3 hM3 hnd hDs;refine ag ?_;refine ai rfl (fun hlt=> ?_) (fun hge=> ?_)
  ·have hil:i<l.length-m:=by omega
   have hill:i<l.length:=by omega
   obtain ⟨n1,n2,n3⟩:=mem W1 (fun k hk hlt=>(hk1 k hk hlt).1);have hx:l[i]?=some l[i]:=ZD hill;refine ag ?_;refine il rfl Pb rfl is3.q rfl ?_;rintro g4 w4 f4;refine ag ?_;refine bg mixed (by kernel_rfl) ?_;have hg4:=f4.at_;have n1':=n1.next f4.below;have n2':=n2.next f4.below;have n3':=n3.below f4.below;refine aB rfl (n2'.cell 0) ?_;refine aB rfl (f4.blk.cell 0) ?_;refine aZ ?_;refine bL Iu rfl ⟨ct,ct,trivial⟩ (fun _=>by (try dsimp only); omega) ?_;refine aB rfl (n1'.cell 0) ?_;refine aZ ?_;have e1:((i:Int)+1).toNat=i+1:=by omega
   have hdrop:SL bC F w4 (.slice (if cap=((i:Int)+1).toNat then some ad else (some ad).map (·.add (((i:Int)+1).toNat*1))) (l.length-((i:Int)+1).toNat) (cap-((i:Int)+1).toNat)) (l.drop (i+1)):=by
    have:=IB n3' (i:=i+1) (by omega);rw [e1];exact this
   have hcall: ∀w':World,Below w4.heap.size w4 w'->Gives prog 78 #[.slice (if cap=((i:Int)+1).toNat then some ad else (some ad).map (·.add (((i:Int)+1).toNat*1))) (l.length-((i:Int)+1).toNat) (cap-((i:Int)+1).toNat),.int .i64 (((m+1:Nat):Int)-1)] w' fun u w''=>Below w'.heap.size w' w''/\SetsV w4.heap.size (.slice (if cap=((i:Int)+1).toNat then some ad else (some ad).map (·.add (((i:Int)+1).toNat*1))) (l.length-((i:Int)+1).toNat) (cap-((i:Int)+1).toNat)) m u w'':=fun w' hb'=>by
    rw [show (((m+1:Nat):Int)-1)=(m:Int) by omega];exact sets_c.mono fun u w'' ⟨h1,gs',gl',h2,h3,h4,h5,h6⟩=>⟨h1,gs',gl',h2,h3,h4,Nat.le_trans hb'.size h5,Nat.le_trans hb'.size h6⟩
   refine fE (.pr (SetsV w4.heap.size (.slice (if cap=((i:Int)+1).toNat then some ad else (some ad).map (·.add (((i:Int)+1).toNat*1))) (l.length-((i:Int)+1).toNat) (cap-((i:Int)+1).toNat)) m)) ?_ rfl (fun _ w' hb'=>hcall w' hb') ?_
   ·exact SetsV.mono _ _ _
   refine dD (qw [1,2,3,4,15,16,25] rfl fun vs w5 hb5 hs5=>aD ?_);obtain ⟨v1,v2,v3,v4,v15,v16,v25,rfl,h1,h2,h3,h4,h15,h16,h25⟩:=uG hs5;refine fU ?_;cases h1;cases h2;cases h3;cases h4;cases h15;cases h16;obtain ⟨gs',gl',rfl,hgs',hgl',hgs1,hgl1⟩:=h25;have hb45:=f4.below.step hb5;have hs45:=hb45.size;have hs4:=f4.below.size;have hs5:=hb5.size;have hd5:=hdrop.below hb5;have hj5:J pre M1 w5:=hJ _ _ _ _ hj (.of_below hb45);have hB35:=hB3.next hb45;have hB45:=f4.blk.next hb5;have o1:=n1.next hb45;have o2:=n2.next hb45;have o3:=n3.below hb45;have hgslt:=hgs'.lt;have hgllt:=hgl'.lt;have hset:ic l m (i+1)=ic l m i++(fI (l.drop (i+1)) m).map (l[i]:: ·):=by
    rw [kG];unfold oJ;rw [hx]
   have hsub: ∃rest,fI l (m+1)=ic l m (i+1)++rest:=by
    rw [sU];refine ⟨(List.range' (i+1) (l.length-(i+1))).flatMap (oJ l m),?_⟩;unfold ic;rw [<-List.flatMap_append,List.range_eq_range',List.range_eq_range']
    congr 1
    have:=List.range'_append_1 (s:=0) (m:=i+1) (n:=l.length-(i+1));rw [Nat.zero_add,show i+1+(l.length-(i+1))=l.length by omega] at this;exact this.symm
   have hFM1: ∀k,F k->k<w.heap.size/\ ¬M1 k/\k≠yl:=fun k hk=>⟨hF k hk,(hk1 k (.inr (.inr hk)) (hF k hk)).2,(hM k (.inr (.inr hk))).2⟩;have hgs1':gs<w.heap.size/\ ¬M1 gs/\gs≠yl:=⟨hgs.lt,(hk1 gs (.inl rfl) hgs.lt).2,(hM gs (.inl rfl)).2⟩;have hgl1':gl<w.heap.size/\ ¬M1 gl/\gl≠yl:=⟨hgl.lt,(hk1 gl (.inr (.inl rfl)) hgl.lt).2,(hM gl (.inr (.inl rfl))).2⟩;have hg4M: ¬M1 g4:=fun h=>by have:=hM1 _ h; omega
   have hit5:=ih (F:=F) hd5 (fun k hk=>by have:=hF k hk; omega) (by rw [List.length_drop]; omega) (by rw [List.length_drop]; omega) hgs' hgl';refine lL rfl ie150.q hit5 rfl (fun _=>rfl)
    (fun pre2 Mi Wi=> ∃outs M,Mi=(fun k=>M k∨k=yl)/\J (pre++outs) M Wi/\outs.map (·.2)=(pre2.map (·.2)).map (l[i]:: ·)/\w5.heap.size<=Wi.heap.size/\(∀k,M k->k<Wi.heap.size)/\(∀k,k<w5.heap.size-> ¬M1 k->k≠yl->Wi.heap[k]?=w5.heap[k]?)/\ ∀k,k<w5.heap.size->M k->M1 k)
    (fun c pre2 Mi Wi=>c= .ret/\(∃outs M,Jx outs M Wi)/\ ∀k,k<w5.heap.size-> ¬M1 k->k≠yl->Wi.heap[k]?=w5.heap[k]?)
    (fun k=>M1 k∨k=yl) ?_ ?_ ?_ ?_ ?_ ?_ ?_ ?_
   ·rintro k (hk|rfl)
    ·have:=hM1 k hk;refine ⟨by omega,?_⟩;rintro (rfl|rfl|h)
     ·omega
     ·omega
     ·exact (hFM1 k h).2.1 hk
    ·refine ⟨by omega,?_⟩;rintro (rfl|rfl|h)
     ·omega
     ·omega
     ·exact (hFM1 _ h).2.2 rfl
   ·rintro k (rfl|rfl|h)
    ·exact hgslt
    ·exact hgllt
    ·have:=hF k h; omega
   ·rintro pre2 Mi Wa Wb ⟨outs,M2,a1,a2,a3,a4,a5,a6,a7⟩ hx';refine ⟨outs,M2,a1,hJ _ _ _ _ a2 (hx'.less (by omega)),a3,Nat.le_trans a4 hx'.size,fun k hk=>Nat.lt_of_lt_of_le (a5 k hk) hx'.size,fun k h1 h2 h3=> ?_,a7⟩;have e:=a6 k h1 h2 h3;rw [Array.getElem?_eq_getElem h1] at e ⊢;exact hx'.block k _ e (.inl h1)
   ·rintro c pre2 Mi Wa Wb ⟨a1,⟨outs,M2,a2⟩,a6⟩ hx';refine ⟨a1,⟨outs,M2,hJx _ _ _ _ a2 (hx'.less (by omega))⟩,fun k h1 h2 h3=> ?_⟩;have e:=a6 k h1 h2 h3;rw [Array.getElem?_eq_getElem h1] at e ⊢;exact hx'.block k _ e (.inl h1)
   ·exact ⟨[],M1,rfl,by rw [List.append_nil]; exact hj5,rfl,ZC,fun k hk=>by have:=hM1 k hk; omega,fun k _ _ _=>rfl,fun k _ h=>h⟩
   ·rintro D L pre2 x Mi Wi hD hL ⟨outs,M2,rfl,a2,a3,a4,a5,a6,a7⟩ ⟨⟨suf,hsuf⟩,hxs⟩ hMlt2 hML hMD hrec;have hLM: ¬M2 L/\L≠yl:=⟨fun h=>hML (.inl h),fun h=>hML (.inr h)⟩;refine ag ?_;refine lJ hrec fun W2 hx2 hsz2 hk2 hrec2=> ?_;have old: ∀k,k<w5.heap.size-> ¬M1 k->k≠yl->W2.heap[k]?=w5.heap[k]?:=fun k h1 h2 h3=>(hk2 k (by omega)).trans (a6 k h1 h2 h3);have p2:Blk W2 gl 32 [.slice (some ad) l.length cap]:=(old gl (by omega) hgl1'.2.1 hgl1'.2.2).trans o2;have p3:SL bC F W2 (.slice (some ad) l.length cap) l:=o3.mono (bn fun k hk hlt=>old k hlt (hFM1 k hk).2.1 (hFM1 k hk).2.2);have p4:Blk W2 g4 3 [.int .i64 (i:Int)]:=(old g4 (by have:=f4.size; omega) hg4M (by omega)).trans hB45;have p5:Blk W2 g3 103 [.func (.yield yl) #[] #[]]:=(old g3 (by omega) hM3 (by omega)).trans hB35;obtain ⟨ad',he',hci,hI⟩:=p3.int hx;cases he';obtain ⟨xv,xl⟩:=x;dsimp only at hsuf hxs;obtain ⟨Ax,cx,rfl,_⟩:=hxs.form;have hxs2:SL bC (fun k=>w5.heap.size<=k/\ ¬(M2 k∨k=yl)) W2 (.slice Ax xl.length cx) xl:=hxs.ext hx2;have hn1: ∀(j:Nat) (u:Value),(xl.map (Value.int .i64))[j]?=some u-> ∃ad':Addr,Ax=some ad'/\W2.cell? (ad'.add j)=some u:=by
     intro j u hu;obtain ⟨y,hy,rfl⟩:=by simpa using hu
     obtain ⟨ad',h1,h2,_⟩:=hxs2.int (i:=j) hy;exact ⟨ad',h1,by rw [Nat.mul_one] at h2; exact h2⟩
    have hxlm:xl∈fI (l.drop (i+1)) m:=by rw [hsuf]; simp
    have hxlen:xl.length=m:=(mem_setsS.1 hxlm).2;refine ag ?_;refine dE mixed fun W3 hW3=> ?_;refine dL .own 8 (by kernel_rfl) (by kernel_rfl) rfl rfl hW3 ?_;refine aB rfl (p5.cell 0) ?_;refine aB rfl (p2.cell 0) ?_;refine aB rfl (p4.cell 0) ?_;refine bL dW rfl ⟨ct,ct,trivial⟩ (fun _=>by omega) ?_;refine aB rfl hci ?_;refine uV 3 _ rfl rfl rfl gQ (ax rfl ct aP) rfl rfl rfl rfl rfl ?_;refine aZ ?_;refine EB (m:=xl.length) (A:=Ax) (xl.map (Value.int .i64)) rfl rfl lF rfl (by kernel_rfl) rfl ct hn1 (by simp) (fun u hu=>by obtain ⟨y,_,rfl⟩:=List.mem_map.1 hu; rfl) (by omega) (by omega) ?_;refine dD (qw [27,34] rfl fun vs w6 hb6 hs6=>ek ?_);obtain ⟨v27,v34,rfl,h27,h34⟩:=Sats.two hs6;cases h27;have h34':OwnS w6 3 1 v34 (1+xl.length) ([.int .i64 l[i]]++xl.map (Value.int .i64))/\ ∀g,v34.ownBlock=some g->W2.heap.size<=g:=h34;have hxI: ∀y∈xl,eB y:=fun y hy=>by
     obtain ⟨j,hj,hje⟩:=List.getElem_of_mem hy;obtain ⟨_,_,_,h⟩:=hxs2.int (i:=j) (x:=y) (by rw [<-hje]; exact ZD hj);exact h
    have hsl6:SL bC (fun k=>w.heap.size<=k/\ ¬M2 k) w6 v34 (l[i]::xl):=by
     refine dz (e:=3) ?_ (fun y hy=> ?_) (fun g hg=> ?_) (by simp; omega)
     ·have:=h34'.1;rw [Nat.add_comm] at this;exact this
     ·rcases List.mem_cons.1 hy with rfl|hy
      ·exact hI
      ·exact hxI y hy
     ·have:=h34'.2 g hg;refine ⟨by omega,fun h=> ?_⟩;have:=a5 g h;omega
    have hj6:J (pre++outs) M2 w6:=hJ _ _ _ _ (hJ _ _ _ _ a2 (hx2.less (by omega))) (.of_below hb6);have hs6':=hb6.size;have hpos:Fj l (m+1) w (pre++outs) (v34,l[i]::xl) M2 w6:=by
     refine ⟨?_,hsl6⟩;obtain ⟨rest,hrest⟩:=hsub;refine ⟨suf.map (l[i]:: ·)++rest,?_⟩;rw [hrest,hset,hsuf,List.map_append,List.map_append,hpre,a3];simp
    refine bV (by kernel_rfl) (by kernel_rfl) rfl ?_;refine lI rfl rfl rfl (aa rfl ct ah) (hy (pre++outs) (v34,l[i]::xl) M2 w6 hj6 hpos (fun k hk=>by have:=a5 k hk; omega) (by omega)) ?_;rintro yb W7 hR;refine bG (aS [35] [(35,_,_)] rfl (dJ ?_));refine bV (by kernel_rfl) (by kernel_rfl) rfl ?_;refine aT wo rfl ⟨ct,trivial⟩ (fun _=>trivial) ?_;refine bG (aS [36] [(36,_,_)] rfl (dJ ?_));refine ed rfl (aS [36] [(36,_,_)] rfl (aD ?_));have hL2:L<W2.heap.size:=hrec2.lt;have hrec7:=hrec2.kept ((hR.kept L (by omega) hLM.1 hLM.2).trans (hb6.block L hL2));have hs7:=hR.size;have kept7: ∀k,k<Wi.heap.size-> ¬(M2 k∨k=yl)->k≠L->W7.heap[k]?=Wi.heap[k]?:=fun k h1 h2 h3 =>
     (hR.kept k (by omega) (fun h=>h2 (.inl h)) (fun h=>h2 (.inr h))).trans ((hb6.block k (by omega)).trans (hk2 k h3))
    have old7: ∀k,k<w5.heap.size-> ¬M1 k->k≠yl->W7.heap[k]?=w5.heap[k]?:=fun k h1 h2 h3 =>
     (kept7 k (by omega) (fun h=>h.elim (fun h=>h2 (a7 k h1 h)) h3) (by omega)).trans (a6 k h1 h2 h3)
    refine au rfl (fun hno=> ?_) (fun hgo=> ?_)
    ·refine ag ?_;obtain ⟨M',hjx⟩:=hR.no (by simpa using hno);refine Kg hrec7 fun W8 hx8 hsz8 hk8 hrec8=> ?_;refine ⟨by omega,fun k h1 h2 h3=>(hk8 k h3).trans (kept7 k h1 h2 h3),fun h=>(by cases h),fun _=>⟨M',.ret,⟨rfl,⟨_,M',hJx _ _ _ _ hjx (hx8.less (by omega))⟩,fun k h1 h2 h3=>(hk8 k (by omega)).trans (old7 k h1 h2 h3)⟩,hrec8⟩⟩
    ·refine ag ?_;obtain ⟨M',hj7,hm7⟩:=hR.yes (by simpa using hgo);have hM'L: ∀k,k<Wi.heap.size->M' k->M2 k:=fun k h1 h2=>by
      rcases (hm7 k h2).1 with h|h
      ·exact h
      ·omega
     have hLi:L<Wi.heap.size:=by omega
     refine jL hrec7 fun W8 hx8 hsz8 hk8 hrec8=> ?_;refine ⟨by omega,fun k h1 h2 h3=>(hk8 k h3).trans (kept7 k h1 h2 h3),fun _=>⟨fun k=>M' k∨k=yl,⟨⟨outs++ [(v34,l[i]::xl)],M',rfl,?_,?_,by omega,fun k hk=>by have:=(hm7 k hk).2; omega,fun k h1 h2 h3=>(hk8 k (by omega)).trans (old7 k h1 h2 h3),fun k h1 h2=>a7 k h1 (hM'L k (by omega) h2)⟩,?_,?_,hrec8⟩,fun k hk=> ?_⟩,fun h=>by cases h⟩
     ·rw [<-List.append_assoc];exact hJ _ _ _ _ hj7 (hx8.less (by omega))
     ·simp [a3]
     ·rintro (h|h)
      ·exact hLM.1 (hM'L L hLi h)
      ·exact hLM.2 h
     ·rintro (h|h)
      ·exact hMD (.inl (hM'L D (by omega) h))
      ·exact hMD (.inr h)
     ·rcases hk with hk|rfl
      ·obtain ⟨q1,q2⟩:=hm7 k hk;exact ⟨q1.elim (fun h=> .inl (.inl h)) (fun h=> .inr (by omega)),by omega⟩
      ·exact ⟨.inl (.inr rfl),by omega⟩
   ·rintro D xs Mi Wi hD hdone ⟨outs,M2,rfl,a2,a3,a4,a5,a6,a7⟩ hMD hdef;refine bP (bP (aD ?_));refine ag ?_;have hDlt:D<Wi.heap.size:=(Array.getElem?_eq_some_iff.1 hdef).1;have hM2D: ∀k,k<W1.heap.size->M2 k->M1 k:=fun k h1 h2=>a7 k (by omega) h2;refine EF (i+1,pre++outs,M2,D::Ds) [1,2,3,15,16] rfl rfl ⟨a2,?_,?_,?_,a5,?_,?_,?_,?_,?_⟩ ?_
    ·show i+1<=l.length-m;omega
    ·show (pre++outs).map (·.2)=ic l m (i+1);rw [List.map_append,hpre,a3,hdone,hset]
    ·show w1.heap.size<=Wi.heap.size;omega
    ·intro k hk hlt;have h:=hk1 k hk hlt;have hy':=(hM k hk).2;exact ⟨(a6 k (by omega) h.2 hy').trans ((hb45.block k (by omega)).trans h.1),fun h'=>h.2 (hM2D k (by omega) h')⟩
    ·exact (a6 g3 (by omega) hM3 (by omega)).trans hB35
    ·exact fun h=>hM3 (hM2D g3 (by omega) h)
    ·refine List.nodup_cons.2 ⟨fun h=> ?_,hnd⟩;have:=(Array.getElem?_eq_some_iff.1 (hDs D h).2.1).1;omega
    ·intro D' hD';rcases List.mem_cons.1 hD' with rfl|hD'
     ·exact ⟨by omega,hdef,fun h=>hMD (.inl h)⟩
     ·obtain ⟨q1,q2,q3⟩:=hDs D' hD';have q4:=(Array.getElem?_eq_some_iff.1 q2).1;exact ⟨q1,(a6 D' (by omega) q3 (by omega)).trans ((hb45.block D' q4).trans q2),fun h=>q3 (hM2D D' q4 h)⟩
    ·show l.length-m-(i+1)<l.length-m-i;omega
   ·rintro D c pre2 Mi Wi hD ⟨rfl,⟨outs,M2,hjx⟩,a6⟩ hdef;refine ag ?_;refine F4 (n:=W.heap.size) (D::Ds) results150 ?_ ?_ (fun w' hx=> .inr ⟨_,_,hJx _ _ _ _ hjx hx⟩) .ret (.inl rfl)
    ·refine List.nodup_cons.2 ⟨fun h=> ?_,hnd⟩;have:=(Array.getElem?_eq_some_iff.1 (hDs D h).2.1).1;omega
    ·intro D' hD';rcases List.mem_cons.1 hD' with rfl|hD'
     ·exact ⟨by omega,hdef⟩
     ·obtain ⟨q1,q2,q3⟩:=hDs D' hD';have q4:=(Array.getElem?_eq_some_iff.1 q2).1;exact ⟨by omega,(a6 D' (by omega) q3 (by omega)).trans ((hb45.block D' q4).trans q2)⟩
  ·refine ag ?_;have hie:i=l.length-m:=by
    have hge': ¬((i:Int)<(l.length:Int)-((m+1:Nat):Int)+1):=hge;omega
   refine F4 (n:=W.heap.size) Ds results150 hnd (fun D' hD'=> ?_) (fun w' hx=> .inl ⟨pre,M1,?_,hJ _ _ _ _ hj hx⟩) .normal (.inr rfl)
   ·obtain ⟨q1,q2,q3⟩:=hDs D' hD';exact ⟨by omega,q2⟩
   ·show pre.map (·.2)=fI l (m+1);rw [hpre,sU,hie];have:=ou (l:=l) (k:=m) (l.length-m) m (by omega);rw [show l.length-m+m=l.length by omega] at this;exact this.symm
end Go.Proofs.YtobaafdejnimkaaGreatDoor
namespace Go.Proofs.YtobaafdejnimkaaGreatDoor
open Tryz
open Go.PF Go.RowKit Go.Ord
attribute [local irreducible] TW CW KW DW
theorem RowL.ext {α:Type} {T:Ty α} {w w':World} {e:TypeId} {b n:Nat} {v:Value} {ps:List (List Value×α)} (h:RowL T w e b v ps) (k:ExtF n w w'):RowL T w' e b v ps :=
 ⟨h.1.ext k,fun p hp=>T.wider _ _ _ _ _ (fun q hq=>⟨Nat.lt_of_lt_of_le hq.1 k.size,hq.2⟩) (T.mono _ _ _ _ _ k.kept (h.2.1 p hp)),h.2.2⟩
theorem RowL.kept {α:Type} {T:Ty α} {w w':World} {e:TypeId} {b:Nat} {v:Value} {ps:List (List Value×α)} (h:RowL T w e b v ps) (hs:w.heap.size<=w'.heap.size) (g:Nat) (hg:v.ownBlock≠some g) (hk: ∀k,k<w.heap.size->k≠g->w'.heap[k]?=w.heap[k]?) (ha: ∀p∈ps,T.rep (fun k=>kF w v k/\k≠g) w p.1 p.2):RowL T w' e b v ps :=
 ⟨h.1.kept fun q hq=>hk q (h.1.lt hq) (fun e=>hg (by rw [<-e]; exact hq)),fun p hp=>T.wider _ _ _ _ _ (fun q hq=>⟨Nat.lt_of_lt_of_le hq.1.1 hs,hq.1.2⟩) (T.mono _ _ _ _ _ (bn fun k hF hlt=>hk k hlt hF.2) (ha p hp)),h.2.2⟩
def RowN {α:Type} (T:Ty α) (w:World) (e:TypeId) (b:Nat) (v:Value) (ps:List (List Value×α)):Prop:=OwnS w e T.n v ps.length (ps.flatMap (·.1))/\(∀p∈ps,T.rep (fun k=>kF w v k/\b<=k) w p.1 p.2)/\ ∀g,v.ownBlock=some g->b<=g
section
variable {α:Type} {T:Ty α} {w w':World} {e:TypeId} {b:Nat} {v v':Value} {ps:List (List Value×α)}
theorem RowN.rowL (h:RowN T w e b v ps):RowL T w e b v ps:=⟨h.1,fun p hp=>T.wider _ _ _ _ _ (fun _ hk=>hk.1) (h.2.1 p hp),h.2.2⟩
theorem RowN.nil (T:Ty α) (w:World) (e:TypeId) (b:Nat):RowN T w e b (.slice none 0 0) []:=⟨OwnS.nil _ _ _,(fun p hp=>by cases hp),fun g h=>by simp [Value.ownBlock] at h⟩
theorem RowN.ext {n:Nat} (h:RowN T w e b v ps) (k:ExtF n w w'):RowN T w' e b v ps :=
 ⟨h.1.ext k,fun p hp=>T.wider _ _ _ _ _ (fun q hq=>⟨⟨Nat.lt_of_lt_of_le hq.1.1 k.size,hq.1.2⟩,hq.2⟩) (T.mono _ _ _ _ _ k.kept (h.2.1 p hp)),h.2.2⟩
theorem RowN.step (h:RowN T w e b v ps) (hb:Below w.heap.size w w'):RowN T w' e b v ps:=h.ext (n:=0) (.of_below hb)
theorem RowN.kept (h:RowN T w e b v ps) (hs:w.heap.size<=w'.heap.size) (hk: ∀k,b<=k->k<w.heap.size->w'.heap[k]?=w.heap[k]?):RowN T w' e b v ps :=
 ⟨h.1.kept fun q hq=>hk q (h.2.2 q hq) (h.1.lt hq),fun p hp=>T.wider _ _ _ _ _ (fun q hq=>⟨⟨Nat.lt_of_lt_of_le hq.1.1 hs,hq.1.2⟩,hq.2⟩) (T.mono _ _ _ _ _ (bn fun k hF hlt=>hk k hF.2 hlt) (h.2.1 p hp)),h.2.2⟩
theorem RowN.setCell (h:RowN T w e b v ps) {g i:Nat} (hg:g<b) (u:Value):RowN T (w.setCell ⟨g,i,none⟩ u) e b v ps :=
 h.kept (by simp) fun k hk _=>Below.heap_setCell _ _ _ _ (fun e=>by have e:k=g:=e; omega)
theorem RowN.app {cs:List Value} {x:α} (h:RowN T w e b v ps) (hO:OwnS w' e T.n v' (ps.length+1) (ps.flatMap (·.1)++cs)) (hg:w.grownBy w' v.ownBlock) (hn:v'.ownBlock=v.ownBlock∨v'.ownBlock=some w.heap.size)
  (hr:T.rep (fun k=>kF w v k/\b<=k) w cs x) (hb:b<=w.heap.size):RowN T w' e b v' (ps++ [(cs,x)]):=by
 have hk:Kept (fun k=>kF w v k/\b<=k) w w':=bn fun k hk hlt=>hg.block k hlt (fun e=>hk.1.2 e.symm);have hw: ∀k,kF w v k/\b<=k->kF w' v' k/\b<=k:=fun k hk=>⟨⟨Nat.lt_of_lt_of_le hk.1.1 hg.size,fun e=>by
  rcases hn with h'|h'
  ·exact hk.1.2 (by rw [<-h']; exact e)
  ·rw [h'] at e; cases e; exact absurd hk.1.1 (Nat.lt_irrefl _)⟩,hk.2⟩
 refine ⟨by rw [List.flatMap_append,List.length_append]; simpa using hO,fun p hp=> ?_,fun q hq=> ?_⟩
 ·rcases ZH hp with hp|hp
  ·exact T.wider _ _ _ _ _ hw (T.mono _ _ _ _ _ hk (h.2.1 p hp))
  ·rw [List.mem_singleton] at hp;subst hp;exact T.wider _ _ _ _ _ hw (T.mono _ _ _ _ _ hk hr)
 ·rcases hn with h'|h'
  ·exact h.2.2 q (by rw [<-h']; exact hq)
  ·rw [h'] at hq; cases hq; exact hb
theorem RowN.sl (h0:0<T.n) (h:RowN T w e b v ps):SL T (fun k=>b<=k/\k<w.heap.size) w v (ps.map (·.2)) :=
 dR ps (fun p hp=>T.wider _ _ _ _ _ (fun _ hb=>⟨hb.2,hb.1.1⟩) (h.2.1 p hp)) h0 h.1 rfl (fun g hg=>⟨h.2.2 g hg,h.1.lt hg⟩) h.rowL.big
end
noncomputable def eO (d:bA) (l:List Ev) (most:Int):List (List Int):=if dec (WfP d l)=true/\0<=most/\most<=3/\(dS l).length<=14 then (fI (dS l) (min most.toNat (dS l).length)).filter (fun S=>dec (Poss d (bz l S))) else []
noncomputable def jk (d:bA) (l:List Ev) (most:Int):Int:=if dec (WfP d l)=true/\0<=most/\most<=3 then (if (dS l).length<=14 then (if eO d l most= [] then 280 else 0) else 2) else 1
theorem jN (l:List Ev) (S:List Int):(bz l S).Sublist l:=List.filter_sublist
theorem WfP.rest {d:bA} {l:List Ev} (h:WfP d l) (S:List Int):kY d (bz l S)↔Poss d (bz l S) :=
 ⟨fun h=>h.2,fun hp=>⟨⟨h.wd,by have:=(jN l S).length_le; have:=h.few; omega,fun e he=>h.each e ((jN l S).subset he)⟩,hp⟩⟩
theorem ER {w:World} {dv ev:Value} {d:bA} {l:List Ev} {most:Int} (hd:SD w dv d) (hl:SE w ev l) (hne: ∀e∈l,e.needs.length<=1000) :
  Gives prog 27 #[dv,ev,.int .i64 most] w fun x w'=>Below w.heap.size w w'/\ ∃v,x= .tuple #[v,.int .i64 (jk d l most)]/\SL (sliceT bC) (fun k=>k<w'.heap.size) w' v (eO d l most):=by
 obtain ⟨A,cap,rfl,hcap⟩:=hd.form;obtain ⟨B,lcap,rfl,hlcap⟩:=hl.form;refine LX (f:=27) ?_;refine ag ?_;refine aG rfl rfl rfl rfl ?_;rintro g3 w1 f1;refine aG rfl rfl rfl rfl ?_;rintro g4 w2 f2;refine ag ?_;have hb12:=f1.below.step f2.below;refine aj rfl ((f1.blk.next f2.below).cell 0) ?_;refine aj rfl (f2.blk.cell 0) ?_;refine aA rfl (Jt (aU hd hb12) (aY hl hb12)) ?_;rintro y3 w3 ⟨hb3,rfl⟩;have hb03:=hb12.step hb3;refine ag ?_;refine au rfl (fun hbad=> ?_) (fun hgood=> ?_)
 ·refine ag ?_;refine F5 results27 rfl rfl ⟨hb03,.slice none 0 0,?_,?_⟩
  ·unfold jk;rw [if_neg];rintro ⟨h1,h2,h3⟩;rw [h1] at hbad;simp at hbad;omega
  ·unfold eO;rw [if_neg]
   ·exact SL.nil _ _ _
   rintro ⟨h1,h2,h3,_⟩;rw [h1] at hbad;simp at hbad;omega
 have hW:WfP d l:=dec_iff.1 (by cases hq:dec (WfP d l)<;>simp_all);have hm:0<=most/\most<=3:=by
  rw [ay hW] at hgood;simp at hgood;omega
 have hlf:=hW.few;refine ag ?_;refine aj rfl (((f2.blk.next hb3).cell 0)) ?_;refine aA rfl (xY (aY hl hb03) (by omega) hne) ?_;rintro y4 w4 ⟨hb4,o4,q4⟩;have hb04:=hb03.step hb4;obtain ⟨R4,c4,rfl,hc4,_⟩:=o4.form;have hrecI: ∀x∈dS l,eB x:=fun x hx=>by
  obtain ⟨e,he,hxe⟩:=mem_recsS.1 hx;obtain ⟨i,hi,hie⟩:=List.getElem_of_mem he;obtain ⟨ad,cs,_,_,⟨nv,_,_,_,_,hn⟩,_⟩:=hl.at (i:=i) (x:=e) (by rw [<-hie]; exact ZD hi);obtain ⟨j,hj,hje⟩:=List.getElem_of_mem hxe;exact hn.rngI (i:=j) (x:=x) (by rw [<-hje]; exact ZD hj)
 refine ag ?_;refine aI [0,1,2,3,4,6,7,8,29] rfl ?_;refine ai rfl (fun hbig=> ?_) (fun hsmall=> ?_)
 ·refine ag ?_;refine F5 results27 rfl rfl ⟨hb04,.slice none 0 0,?_,?_⟩
  ·unfold jk;rw [if_pos ⟨ay hW,hm⟩,if_neg (by omega)]
  ·unfold eO;rw [if_neg (by rintro ⟨_,_,_,h⟩; omega)];exact SL.nil _ _ _
 have hsm:(dS l).length<=14:=by omega
 refine ag ?_;refine dC rfl rfl MV ?_;rintro g9 w5 f5;refine ag ?_;refine aT kD rfl ⟨ct,ct,trivial⟩ (fun _=>trivial) ?_;have hmin:min most ((dS l).length:Int)=((min most.toNat (dS l).length:Nat):Int):=by omega
 rw [hmin];refine aA rfl (sets_c) ?_;rintro y6 w6 ⟨hb6,gs,gl,rfl,hgs,hgl,hgs1,hgl1⟩;have hb05:=hb04.step f5.below;have hb06:=hb05.step hb6;refine ag ?_;obtain ⟨n,hn⟩: ∃n,n=min most.toNat (dS l).length:=⟨_,rfl⟩;rw [<-hn] at hgs;have hsz4:=hb4.size;have hsz3:=hb03.size;have hsz5:=f5.below.size;have hsz6:=hb6.size;have hg9:=f5.at_;have hg9s:=f5.size;have hsl:SL bC (fun k=>(Value.slice R4 (dS l).length c4).ownBlock=some k) w6 (.slice R4 (dS l).length c4) (dS l):=(dz (o4.below (f5.below.step hb6)) hrecI (fun g hg=>hg) (by omega));have hF4: ∀k,(Value.slice R4 (dS l).length c4).ownBlock=some k->k<w4.heap.size/\w3.heap.size<=k:=fun k hk=>⟨o4.lt hk,q4 k hk⟩;have hit:=Dh n hsl (fun k hk=>by have:=(hF4 k hk).1; omega) (by omega) (by omega) hgs hgl;have hg3:=f1.at_;have hg4:=f2.at_;have hs1:=f1.size;have hs2:=f2.size;have hs3:=hb3.size;have B3:Blk w6 g3 30 [.slice A d.length cap]:=f1.blk.next (f2.below.step (hb3.step (hb4.step (f5.below.step hb6))));have B4:Blk w6 g4 31 [.slice B l.length lcap]:=f2.blk.next (hb3.step (hb4.step (f5.below.step hb6)));have B9:Blk w6 g9 30 [.slice none 0 0]:=f5.blk.next hb6;refine lL rfl ie150.q hit rfl (fun _=>rfl)
  (fun pre M W=>Below w.heap.size w W/\w6.heap.size<=W.heap.size/\Blk W g3 30 [.slice A d.length cap]/\Blk W g4 31 [.slice B l.length lcap]/\ ∃vf ps,Blk W g9 30 [vf]/\RowN (sliceT bC) W 32 w6.heap.size vf ps/\ps.map (·.2)=(pre.map (·.2)).filter (fun S=>dec (Poss d (bz l S)))/\M=fun k=>k=g9∨vf.ownBlock=some k)
  (fun c pre M W=>False) (fun k=>k=g9) ?_ ?_ ?_ (fun _ _ _ _ _ h _=>h) ?_ ?_ ?_ ?_
 ·rintro k rfl;refine ⟨by omega,?_⟩;rintro (rfl|rfl|h)
  ·omega
  ·omega
  ·have:=hF4 _ h; omega
 ·rintro k (rfl|rfl|h)
  ·exact hgs.lt
  ·exact hgl.lt
  ·have:=hF4 k h; omega
 ·rintro pre M W1 W2 ⟨a1,a2,a3,a4,vf,ps,a5,a6,a7,a8⟩ hx;exact ⟨(hx.less (by omega)).below a1 ZC,Nat.le_trans a2 hx.size,a3.ext hx,a4.ext hx,vf,ps,a5.ext hx,a6.ext hx,a7,a8⟩
 ·exact ⟨hb06,ZC,B3,B4,.slice none 0 0,[],B9,RowN.nil _ _ _ _,rfl,by funext k; simp [Value.ownBlock]⟩
 ·rintro D L pre ⟨xv,xl⟩ M W hD hL ⟨a1,a2,a3,a4,vf,ps,a5,a6,a7,rfl⟩ ⟨⟨suf,hsuf⟩,hxs⟩ hMlt hML hMD hrec;dsimp only at hsuf hxs;obtain ⟨Ax,cx,rfl,_⟩:=hxs.form;have hps:ps.length<=3375:=by
   have e1:ps.length=(ps.map (·.2)).length:=by simp
   rw [e1,a7];have e2:=List.length_filter_le (fun S=>dec (Poss d (bz l S))) (pre.map (·.2));have e3:=qB (dS l) n;rw [hsuf] at e3;simp at e3 e2;have e4:((dS l).length+1) ^ n<=15 ^ n:=Nat.pow_le_pow_left (by omega) n;have e5:15 ^ n<=15 ^ 3:=Nat.pow_le_pow_right (by omega) (by omega);simp;omega
  refine ag ?_;refine lJ hrec fun W2 hx2 hsz2 hk2 hrec2=> ?_;have a1':Below w.heap.size w W2:=(hx2.less (by omega)).below a1 ZC;have a3':=a3.ext hx2;have a4':=a4.ext hx2;have a5':=a5.ext hx2;have a6':=a6.ext hx2;have hxs':=hxs.ext hx2;refine ag ?_;refine bg mixed (by kernel_rfl) ?_;refine aB rfl (a3'.cell 0) ?_;refine aB rfl (a4'.cell 0) ?_;refine aZ ?_;refine fE (.pr (fun u W=>SE W u (bz l xl))) ?_ rfl (fun _ w' hb'=>F7 (aY hl (a1'.step hb')) (hxs'.below hb') (by omega) (fun e he=>by have:=hne e he; omega)) ?_
  ·exact fun _ _ _ hb h=>aY h hb
  refine iR (.pr fun u _=> ∃v,u= .tuple #[v,.bool (dec (kY d (bz l xl)))]) (fZ _) rfl rfl ie33.q rfl ct (bJ rfl ct (bJ rfl ct (bJ rfl ct fK))) (fun _ w' hb' vs hs=> ?_) ?_
  ·obtain ⟨_,u,_,rfl,rfl,hu,rfl⟩:=uF hs;exact (yX (aU hd (a1'.step hb')) hu).mono fun x w'' ⟨h1,h2⟩=>⟨h1,h2⟩
  refine IM rfl rfl rfl ct (fZ _) ?_;refine rV (fun _ _=>True) rfl rfl rfl ct (fZ _) (fun u w' ⟨v',h1⟩=>⟨_,v',h1,rfl,trivial⟩) ?_;refine rV (fun u _=>u= .bool (dec (kY d (bz l xl)))) rfl rfl rfl ct (fZ _) (fun u w' ⟨v',h1⟩=>⟨_,_,h1,rfl,rfl⟩) ?_;refine fP rfl rfl rfl ct (fZ _) ?_;refine fP rfl rfl rfl ct (fZ _) ?_;refine dD (qw [9,10,12] rfl fun vs W3 hb3 hs3=>aD ?_);obtain ⟨v9,v10,v12,rfl,h9,h10,h12⟩:=uF hs3;refine ag ?_;refine aI [9,10,12,45] rfl ?_;cases h9;cases h10;obtain rfl:v12=_:=h12;rw [fJ (hW.rest xl)];have hL2:L<W2.heap.size:=hrec2.lt;have rec3:W3.heap[L]?=W2.heap[L]?:=hb3.block L hL2;have s3:=hb3.size;have a1'':=a1'.step hb3;have a5'':=a5'.next hb3;have a6'':=a6'.step hb3;have hxs'':=hxs'.below hb3;have hvlt: ∀q,vf.ownBlock=some q->w6.heap.size<=q/\q<W2.heap.size:=fun q hq=>⟨a6'.2.2 q hq,a6'.1.lt hq⟩;have hLv:vf.ownBlock≠some L:=fun e=>hML (.inr e);have hDv:vf.ownBlock≠some D:=fun e=>hMD (.inr e);have hLg:L≠g9:=fun e=>hML (.inl e);have hDg:D≠g9:=fun e=>hMD (.inl e);refine au rfl (fun hyes=> ?_) (fun hno=> ?_)
  ·refine bE ?_;refine aj rfl (a5''.cell 0) ?_;refine ag ?_;refine ak 32 _ rfl rfl rfl zf (aa rfl ct ah) rfl rfl rfl rfl rfl ?_;rintro g48 w7 f7;have o7:=a6''.1.below f7.below;refine aK [.slice Ax xl.length cx] rfl rfl Eb rfl o7 rfl rfl (fun j v hj=>⟨⟨g48,0,none⟩,rfl,f7.blk.fld hj⟩) (fun v hv=>by simp at hv; subst hv; rfl) (by omega) (by omega) ?_;rintro vf' w8 o8 hg8 hn8;have s7:=f7.below.size;have s8:=hg8.size;have b8:Blk w8 g9 30 [vf]:=Blk.keptO (a5''.next f7.below) hg8 (fun e=>by have:=hvlt _ e; omega);obtain ⟨A8,c8,hv8,_⟩:=o8.form;have h18:vf'.oneCell'=true:=by rw [hv8]; rfl
   refine gU rfl is30.q rfl rfl (b8.cell 0) (b8.frozen 0) h18 ?_;refine ag ?_;have r8:RowN (sliceT bC) w8 32 w6.heap.size vf' (ps++ [([.slice Ax xl.length cx],xl)]):=by
    refine RowN.app (a6''.step f7.below) o8 hg8 hn8 ⟨_,rfl,?_⟩ (by omega);refine ((hxs''.below f7.below).nb sG).wider fun k hk=>⟨⟨hk.2,fun e=>hk.1.2 (.inr e)⟩,hk.1.1⟩
   have r9:=r8.setCell (g:=g9) (i:=0) (by omega) vf';have hnew: ∀q,vf'.ownBlock=some q->vf.ownBlock=some q∨q=w7.heap.size:=fun q hq=>by
    rcases hn8 with h|h
    ·exact .inl (by rw [<-h]; exact hq)
    ·rw [h] at hq; cases hq; exact .inr rfl
   have rec8:w8.heap[L]?=W2.heap[L]?:=(hg8.block L (by omega) (fun e=>hLv e.symm)).trans ((f7.below.block L (by omega)).trans rec3);have kept8: ∀k,k<W.heap.size-> ¬(k=g9∨vf.ownBlock=some k)->k≠L->w8.heap[k]?=W.heap[k]?:=fun k h1 h2 h3 =>
    (hg8.block k (by omega) (fun e=>h2 (.inr e.symm))).trans ((f7.below.block k (by omega)).trans ((hb3.block k (by omega)).trans (hk2 k h3)))
   have hb08:Below w.heap.size w w8:=(a1''.step f7.below).grown hg8 (a1''.step f7.below).size (fun q hq=>by have:=hvlt q hq; omega);have b38:Blk w8 g3 30 [.slice A d.length cap]:=Blk.keptO ((a3'.next hb3).next f7.below) hg8 (fun e=>by have:=hvlt _ e; omega);have b48:Blk w8 g4 31 [.slice B l.length lcap]:=Blk.keptO ((a4'.next hb3).next f7.below) hg8 (fun e=>by have:=hvlt _ e; omega);refine jL (hrec2.kept ((Below.heap_setCell _ _ _ _ (by show L≠g9; exact hLg)).trans rec8)) fun W9 hx9 hsz9 hk9 hrec9=> ?_;have hs9:W9.heap.size=w8.heap.size:=by rw [hsz9]; simp
   refine ⟨by omega,fun k h1 h2 h3=>(hk9 k h3).trans ((Below.heap_setCell _ _ _ _ (fun e=>h2 (.inl e))).trans (kept8 k h1 h2 h3)),fun _=>⟨fun k=>k=g9∨vf'.ownBlock=some k,⟨⟨(hx9.less (by omega)).below (hb08.setCell (by show w.heap.size<=g9; omega) _) ZC,by omega,(b38.far (by show g3≠g9; omega) vf').ext hx9,(b48.far (by show g4≠g9; omega) vf').ext hx9,vf',_,(b8.set 0 vf').ext hx9,r9.ext hx9,?_,rfl⟩,?_,?_,hrec9⟩,fun k hk=> ?_⟩,fun h=>by cases h⟩
   ·rw [List.map_append,a7,List.map_append,List.filter_append];simp [hyes]
   ·rintro (h|h)
    ·exact hLg h
    ·rcases hnew L h with h|h
     ·exact hLv h
     ·omega
   ·rintro (h|h)
    ·exact hDg h
    ·rcases hnew D h with h|h
     ·exact hDv h
     ·omega
   ·rcases hk with rfl|hk
    ·exact ⟨.inl (.inl rfl),by omega⟩
    ·rcases hnew k hk with h|h
     ·exact ⟨.inl (.inr h),by have:=hvlt k h; omega⟩
     ·refine ⟨.inr (by omega),?_⟩;have:=o8.lt hk;omega
  ·refine ag ?_;refine jL (hrec2.kept rec3) fun W8 hx8 hsz8 hk8 hrec8=> ?_;refine ⟨by omega,fun k h1 h2 h3=>(hk8 k h3).trans ((hb3.block k (by omega)).trans (hk2 k h3)),fun _=>⟨fun k=>k=g9∨vf.ownBlock=some k,⟨⟨(hx8.less (by omega)).below a1'' ZC,by omega,(a3'.next hb3).ext hx8,(a4'.next hb3).ext hx8,vf,ps,a5''.ext hx8,a6''.ext hx8,?_,rfl⟩,hML,hMD,hrec8⟩,fun k hk=> ?_⟩,fun h=>by cases h⟩
   ·rw [a7];simp [List.filter_append,hno]
   ·refine ⟨.inl hk,?_⟩;rcases hk with rfl|hk
    ·omega
    ·have:=hvlt k hk; omega
 ·rintro D xs M W hD hdone ⟨a1,a2,a3,a4,vf,ps,a5,a6,a7,rfl⟩ hMD hdef;have hdone':xs.map (·.2)=fI (dS l) n:=hdone;obtain ⟨Av,cv,hv⟩:=a6.rowL.form;subst hv;have hws:eO d l most=ps.map (·.2):=by
   unfold eO;rw [if_pos ⟨ay hW,hm.1,hm.2,hsm⟩,a7,hdone',hn]
  have hDn:D<W.heap.size:=(Array.getElem?_eq_some_iff.1 hdef).1;have hput:ExtF w6.heap.size W (W.putObj D (.deferred none)):=ExtF.putObj hdef rfl hD;have hBp:Below w.heap.size w (W.putObj D (.deferred none)):=iT a1 (by omega);refine bP (aD ?_);refine ag ?_;refine aj rfl (a5.cell 0) ?_;refine ag ?_;refine ai rfl (fun hz=> ?_) (fun hnz=> ?_)
  ·refine ag ?_;refine Ks results27 rfl rfl hdef ⟨hBp,.slice none 0 0,?_,?_⟩
   ·unfold jk;rw [if_pos ⟨ay hW,hm⟩,if_pos hsm,if_pos];rw [hws,List.map_eq_nil_iff,<-List.length_eq_zero_iff];omega
   ·rw [hws,show ps= [] from List.length_eq_zero_iff.1 (by omega)];exact SL.nil _ _ _
  ·refine ag ?_;refine aj rfl (a5.cell 0) ?_;refine ag ?_;refine Ks results27 rfl rfl hdef ⟨hBp,.slice Av ps.length cv,?_,?_⟩
   ·unfold jk;rw [if_pos ⟨ay hW,hm⟩,if_pos hsm,if_neg];rw [hws,List.map_eq_nil_iff,<-List.length_eq_zero_iff];omega
   ·rw [hws];exact ((a6.ext hput).sl (by show 0<1; omega)).wider fun _ h=>h.2
 ·rintro D c pre M W hD h;exact h.elim
end Go.Proofs.YtobaafdejnimkaaGreatDoor
namespace Go.Proofs.YtobaafdejnimkaaGreatDoor
open Tryz
open Go.PF Go.RowKit Go.Ord
attribute [local irreducible] TW CW KW DW
variable {w:World} {v u:Value} {k:Nat} {F:Nat->Prop} {d:bA} {l:List Ev}
def Upto {α:Type} (p:α->Prop) (l:List α) (k:Nat):Prop:= ∀(i:Nat) (e:α),i<k->l[i]?=some e->p e
theorem Upto.zero {α:Type} {p:α->Prop} {l:List α}:Upto p l 0:=fun i e hi=>by omega
theorem Upto.succ {α:Type} {p:α->Prop} {l:List α} {x:α} (h:Upto p l k) (hx:l[k]?=some x) (hp:p x):Upto p l (k+1):=fun i e hi he=>by
 rcases ZI i k with h'|h'
 ·exact h i e h' he
 ·obtain rfl:i=k:=by omega
  rw [hx] at he; cases he;exact hp
theorem Upto.all {α:Type} {p:α->Prop} {l:List α} (h:Upto p l k) (hk:l.length<=k): ∀e∈l,p e:=fun e he=>by
 obtain ⟨i,hi,hie⟩:=List.getElem_of_mem he;exact h i e (by omega) (by rw [<-hie]; exact ZD hi)
theorem bD {α:Type} {l:List α} (h:k<l.length): ∃x,l[k]?=some x/\x∈l:=⟨l[k],ZD h,List.getElem_mem h⟩
abbrev SI (w:World) (v:Value) (l:List Int):Prop:=SL bC (fun k=>k<w.heap.size) w v l
theorem Kr {l:List Int} {n:Int} (hl:SL bC F w v l):Gives prog 167 #[v,.int .i64 n] w fun x w'=>Below w.heap.size w w'/\x= .bool (decide (n∈l)):=by
 obtain ⟨A,cap,rfl,_⟩:=hl.form;have hmax:=hl.len.2.2;refine gv (f:=167) ?_;refine ag ?_;refine aJ [0,1] (fun k:Nat=> [(5,none,.int .i64 (k:Int))])
  (fun k W=>k<=l.length/\W=w/\Upto (· ≠n) l k) (fun k=>l.length-k) 0 ⟨by omega,rfl,Upto.zero⟩ ?_
 rintro k W ⟨hk,rfl,hup⟩;refine ag ?_;refine ai rfl (fun hlt=> ?_) (fun hge=> ?_)
 ·obtain ⟨x,hx,hxm⟩:=bD (l:=l) (k:=k) (by omega);obtain ⟨ad,rfl⟩:=hl.addr (by omega);refine ag ?_;refine aj rfl (hl.getI hx) ?_;refine ag ?_;refine ai rfl (fun he=> ?_) (fun hn=> ?_)
  ·refine ag ?_;refine aW rfl ⟨ZA,by rw [decide_eq_true (he ▸ hxm)]⟩
  refine ag ?_;refine aC (k+1) ⟨by omega,rfl,hup.succ hx hn⟩
 ·refine ag ?_;refine aW rfl ⟨ZA,by rw [decide_eq_false (fun h=>hup.all (by omega) n h rfl)]⟩
structure FewD (d:bA) (l:List Ev) (o m:Int):Prop where
 d1:(d.length:Int)<=o
 l1:(l.length:Int)<=m
 r1: ∀r∈d,(r.length:Int)<=o
theorem FZ {G:Nat->Prop} {o m:Int} (hd:SL (sliceT bC) F w v d) (hl:SL evT G w u l):Gives prog 92 #[v,u,.int .i64 o,.int .i64 m] w fun x w'=>Below w.heap.size w w'/\x= .bool (dec (FewD d l o m)):=by
 obtain ⟨A,cap,rfl,_⟩:=hd.form;obtain ⟨B,bcap,rfl,_⟩:=hl.form;have hmax:d.length<=9223372036854775807:=hd.len.2.2;refine gv (f:=92) ?_;refine ag ?_;refine au rfl (fun hbad=> ?_) (fun hgood=> ?_)
 ·refine ag ?_;refine aW rfl ⟨ZA,by rw [az (fun h=>by have:=h.d1; have:=h.l1; simp at hbad; omega)]⟩
 have hg:(d.length:Int)<=o/\(l.length:Int)<=m:=by simp at hgood; omega
 refine ag ?_;refine aJ [0,2] (fun k:Nat=> [(9,none,.int .i64 (k:Int))])
  (fun k W=>k<=d.length/\W=w/\Upto (fun r:List Int=>(r.length:Int)<=o) d k) (fun k=>d.length-k) 0 ⟨by omega,rfl,Upto.zero⟩ ?_
 rintro k W ⟨hk,rfl,hup⟩;refine ag ?_;refine aI [0,2,9,23] rfl ?_;refine ai rfl (fun hlt=> ?_) (fun hge=> ?_)
 ·obtain ⟨x,hx,hxm⟩:=bD (l:=d) (k:=k) (by omega);obtain ⟨ad,rfl⟩:=hd.addr (by omega);obtain ⟨rv,hcell,hrow⟩:=hd.row hx;obtain ⟨C,ccap,rfl,_⟩:=hrow.form;refine ag ?_;refine aj rfl hcell ?_;refine ag ?_;refine ai rfl (fun he=> ?_) (fun hn=> ?_)
  ·refine ag ?_;refine aW rfl ⟨ZA,by rw [az (fun h=>by have:=h.r1 x hxm; omega)]⟩
  refine ag ?_;refine aC (k+1) ⟨by omega,rfl,hup.succ hx (by omega)⟩
 ·refine ag ?_;refine aW rfl ⟨ZA,by rw [ay ⟨hg.1,hg.2,hup.all (by omega)⟩]⟩
structure FewP (d:bA) (l:List Ev):Prop where
 fd:FewD d l 5 8
 nd: ∀e∈l,e.needs.length<=6
theorem FY {G:Nat->Prop} (hd:SL (sliceT bC) F w v d) (hl:SL evT G w u l):Gives prog 35 #[v,u] w fun x w'=>Below w.heap.size w w'/\x= .bool (dec (FewP d l)):=by
 obtain ⟨A,cap,rfl,_⟩:=hd.form;obtain ⟨B,bcap,rfl,_⟩:=hl.form;have hmax:l.length<=9223372036854775807:=hl.len.2.2;refine gv (f:=35) ?_;refine ag ?_;refine aJ [0,1] (fun k:Nat=> [(5,none,.int .i64 (k:Int))])
  (fun k W=>k<=l.length/\W=w/\Upto (fun e:Ev=>e.needs.length<=6) l k) (fun k=>l.length-k) 0 ⟨by omega,rfl,Upto.zero⟩ ?_
 rintro k W ⟨hk,rfl,hup⟩;refine ag ?_;refine ai rfl (fun hlt=> ?_) (fun hge=> ?_)
 ·obtain ⟨x,hx,hxm⟩:=bD (l:=l) (k:=k) (by omega);obtain ⟨ad,rfl⟩:=hl.addr (by omega);obtain ⟨nx,cx,_,_,_,hnx⟩:=SE.get hl hx;obtain ⟨C,ccap,rfl,_⟩:=hnx.form;refine ag ?_;refine aj rfl (cx 3 _ rfl) ?_;refine ag ?_;refine aI [0,1,5,18] rfl ?_;refine ai rfl (fun he=> ?_) (fun hn=> ?_)
  ·refine ag ?_;refine aW rfl ⟨ZA,by rw [az (fun h=>by have:=h.nd x hxm; omega)]⟩
  refine ag ?_;refine aC (k+1) ⟨by omega,rfl,hup.succ hx (by omega)⟩
 ·refine ag ?_;refine aA rfl (FZ hd hl) ?_;rintro y w1 ⟨hb1,rfl⟩;refine ag ?_;refine aW rfl ⟨hb1,by rw [fJ (show FewD d l 5 8↔FewP d l from ⟨fun h=>⟨h,hup.all (by omega)⟩,fun h=>h.fd⟩)]⟩
theorem sV (hd:SD w v d) (hl:SE w u l):Gives prog 96 #[v,u,.slice none 0 0] w fun x w'=>Below w.heap.size w w'/\x= .bool (dec (WfE d l)):=by
 obtain ⟨A,cap,rfl,_⟩:=hd.form;obtain ⟨B,bcap,rfl,_⟩:=hl.form;have hmax:l.length<=9223372036854775807:=hl.len.2.2;refine gv (f:=96) ?_;refine ag ?_;refine aA rfl (pF hd) ?_;rintro y w1 ⟨hb1,rfl⟩;refine ag ?_;refine aI [0,1,2,6,18] rfl ?_;refine au rfl (fun hbad=> ?_) (fun hgood=> ?_)
 ·refine ag ?_;refine aW rfl ⟨hb1,by rw [az (fun h=>by simp [ay h.wd] at hbad; have:=h.few; omega)]⟩
 have hwd:WfD d:=dec_iff.1 (by cases hq:dec (WfD d)<;>simp_all);have hfew:l.length<=16:=by simp [ay hwd] at hgood; omega
 refine ag ?_;refine bI rfl rfl (dH rG I6 rfl) rfl rfl (by omega) (by omega) ?_;rintro g2 w2 f2;refine ag ?_;have hb02:=hb1.step f2.below;refine aJ [0,1,2] (fun k:Nat=> [(8,none,.int .i64 (k:Int))])
  (fun k W=>k<=l.length/\W=w2/\Upto (EOK d) l k) (fun k=>l.length-k) 0 ⟨by omega,rfl,Upto.zero⟩ ?_
 rintro k W ⟨hk,rfl,hup⟩;have hl2:=hl.below hb02;refine ag ?_;refine ai rfl (fun hlt=> ?_) (fun hge=> ?_)
 ·obtain ⟨x,hx,hxm⟩:=bD (l:=l) (k:=k) (by omega);obtain ⟨ad,rfl⟩:=hl2.addr (by omega);obtain ⟨nx,cx,_,_,_,hnx⟩:=SE.get hl2 hx;refine ag ?_;refine aj rfl (cx 0 _ rfl) ?_;refine ag ?_;refine aj rfl (cx 0 _ rfl) ?_;refine ag ?_;refine aI [0,1,2,8,43] rfl ?_;refine au rfl (fun he=> ?_) (fun hn=> ?_)
  ·refine ag ?_;refine aW rfl ⟨hb02,by rw [az (fun h=>by have h1:=(h.each x hxm).o1; have h2:=(h.each x hxm).o2; simp at he; omega)]⟩
  refine ag ?_;refine aC (k+1) ⟨by omega,rfl,hup.succ hx (by simp at hn; exact ⟨by omega,by omega⟩)⟩
 ·refine ag ?_;refine lM (fun _:Unit=> [(2,none,.slice none 0 0),(9,none,.int .i64 0)]) (fun _ W'=>W'=W) (fun k=>0) () [2,9] rfl rfl ?_;rintro _ W' rfl;refine ag ?_;refine ai rfl (fun hlt2=> ?_) (fun hge2=> ?_)
  ·exfalso;omega
  ·refine ag ?_;refine aW rfl ⟨hb02,by rw [ay ⟨hwd,hfew,hup.all (by omega)⟩]⟩
def OL:List Int->List Int->Bool
 | x::a,y::b=>if x=y then OL a b else decide (x<y)
 | _,_=>false
end Go.Proofs.YtobaafdejnimkaaGreatDoor
namespace Go.Proofs.YtobaafdejnimkaaGreatDoor
open Tryz
open Go.PF Go.RowKit Go.Ord
variable {d:bA} {l l' r:List Ev} {t most:Int} {b:List Int} {N:Net}
theorem oI {α:Type}: ∀ {l t:List α},t.Sublist l-> ∀n,t.length<=n->n<=l.length-> ∃b,t.Sublist b/\b.Sublist l/\b.length=n
 | [],t,h,n,h1,h2=>⟨[],by simpa using h,List.Sublist.refl _,by simp at h2; simp [h2]⟩
 | x::l,t,h,n,h1,h2=>by
  cases h with
  | cons _ h =>
   by_cases hn:n<=l.length
   ·obtain ⟨b,q1,q2,q3⟩:=oI h n h1 hn;exact ⟨b,q1,q2.cons x,q3⟩
   ·simp at h2
    exact ⟨x::l,h.cons x,List.Sublist.refl _,by simp; omega⟩
  | cons_cons _ h =>
   rename_i t';simp at h1 h2;obtain ⟨b,q1,q2,q3⟩:=oI h (n-1) (by omega) (by omega);exact ⟨x::b,q1.cons_cons x,q2.cons_cons x,by simp; omega⟩
theorem gone_iff {S:List Int} {e:Ev}:gone S e=true↔ ∃r∈e.needs,r∈S:=by
 unfold gone;simp
theorem Dq {S T:List Int} (h: ∀e∈l,gone S e=true->gone T e=true):(bz l T).Sublist (bz l S):=by
 unfold bz;have e1:l.filter (fun e=> !gone T e)=(l.filter (fun e=> !gone S e)).filter (fun e=> !gone T e):=by
  rw [List.filter_filter];refine List.filter_congr fun e he=> ?_
  cases h1:gone S e with
  | false=>simp
  | true=>simp [h e he h1]
 rw [e1];exact List.filter_sublist
structure WOK (d:bA) (l:List Ev) (most:Int):Prop where
 wf:WfP d l
 m0:0<=most
 m3:most<=3
 rl:(dS l).length<=14
theorem WOK.eq (h:WOK d l most):eO d l most=(fI (dS l) (min most.toNat (dS l).length)).filter (fun S=>dec (Poss d (bz l S))):=by
 unfold eO;rw [if_pos ⟨ay h.wf,h.m0,h.m3,h.rl⟩]
theorem WOK.mem (h:WOK d l most):b∈eO d l most↔b.Sublist (dS l)/\b.length=min most.toNat (dS l).length/\Poss d (bz l b):=by
 rw [h.eq,List.mem_filter,mem_setsS,dec_iff,and_assoc]
theorem WOK.err (h:WOK d l most):jk d l most=if eO d l most= [] then 280 else 0:=by
 unfold jk;rw [if_pos ⟨ay h.wf,h.m0,h.m3⟩,if_pos h.rl]
theorem WOK.ok (h:WOK d l most) (hb:b∈eO d l most):jk d l most=0:=by
 rw [h.err,if_neg (fun e=>by rw [e] at hb; cases hb)]
theorem WOK.has (h:WOK d l most) {s:List Int} (hs:(s.length:Int)<=most) (hp:Poss d (bz l s)): ∃b∈eO d l most,∀x∈s.filter (fun y=>decide (y∈dS l)),x∈b:=by
 have hm:=h.m0;have hnd:(dS l).Nodup:=(nJ l).nodup;have hsub:((dS l).filter fun y=>decide (y∈s)).Sublist (dS l):=List.filter_sublist;have hle:((dS l).filter fun y=>decide (y∈s)).length<=s.length:=gL (hnd.sublist hsub) (fun x hx=>by
  have:=(List.mem_filter.1 hx).2;simpa using this)
 have hle2:=hsub.length_le;obtain ⟨b,q1,q2,q3⟩:=oI hsub (min most.toNat (dS l).length) (by omega) (by omega);have hin: ∀x∈s,x∈dS l->x∈b:=fun x h1 h2=>q1.subset (List.mem_filter.2 ⟨h2,by simpa using h1⟩);refine ⟨b,h.mem.2 ⟨q2,q3,hp.sub (Dq fun e he hg=> ?_)⟩,fun x hx=> ?_⟩
 ·obtain ⟨r,hr,hrs⟩:=gone_iff.1 hg;exact gone_iff.2 ⟨r,hr,hin r hrs (mem_recsS.2 ⟨e,he,hr⟩)⟩
 ·obtain ⟨h1,h2⟩:=List.mem_filter.1 hx;exact hin x h1 (by simpa using h2)
theorem WfP.sub (h:WfP d l) (hs:l'.Sublist l):WfP d l' :=
 ⟨h.wd,by have:=hs.length_le; have:=h.few; omega,fun e he=>h.each e (hs.subset he),fun e he=>h.pos e (hs.subset he)⟩
theorem F9 (hs:l'.Sublist l): ∀x∈dS l',x∈dS l:=fun x hx=>by
 obtain ⟨e,he,hxe⟩:=mem_recsS.1 hx;exact mem_recsS.2 ⟨e,hs.subset he,hxe⟩
theorem WOK.sub {d:bA} {l l':List Ev} {most:Int} (h:WOK d l most) (hs:l'.Sublist l):WOK d l' most :=
 ⟨h.wf.sub hs,h.m0,h.m3,by have:=gL (nJ l').nodup (F9 hs); have:=h.rl; omega⟩
theorem WOK.len (h:WOK d l most) (hb:b∈eO d l most):(b.length:Int)<=most:=by
 have:=(h.mem.1 hb).2.1;have:=h.m0;omega
theorem WOK.more (h:WOK d l most) (h3:most<3) (hb:b∈eO d l most): ∃c∈eO d l (most+1),∀x∈b,x∈c:=by
 have hw:WOK d l (most+1):=⟨h.wf,by have:=h.m0; omega,by omega,h.rl⟩;obtain ⟨q1,q2,q3⟩:=h.mem.1 hb;obtain ⟨c,hc,hin⟩:=hw.has (s:=b) (by have:=h.len hb; omega) q3;exact ⟨c,hc,fun x hx=>hin x (List.mem_filter.2 ⟨hx,by simpa using q1.subset hx⟩)⟩
theorem WOK.inc (h:WOK d l most) (hb:b∈eO d l most):Inc b:=(nJ l).sublist (h.mem.1 hb).1
theorem EU {o f f' t':Int} (h:WfE d (r++ [xD o f t])):WfE d (r++ [xD o f' t']) :=
 ⟨h.wd,by have:=h.few; simpa using this,fun e he=>by
  rcases ZH he with he|he
  ·exact h.each e (List.mem_append_left _ he)
  ·rw [List.mem_singleton] at he;subst he;have:=h.each (xD o f t) (by simp);exact ⟨this.o1,this.o2⟩⟩
def PE (d:bA) (r:List Ev) (o:Int):Prop:=WfE d (r++ [xD o 0 0])
theorem at_iff {o f:Int}:(Knd.at o f t).b d r=true↔PE d r o/\ ∃τ,f<=τ/\τ<=t/\PV d r o τ:=by
 show dec (kY d (r++ [xD o f t]))=true↔_;rw [dec_iff];unfold kY;rw [Gg];exact ⟨fun h=>⟨EU h.1,h.2⟩,fun h=>⟨EU h.1,h.2⟩⟩
theorem can_iff {rs:List (List Ev)} {k:Knd}:jg d rs k=true↔ ∃r∈rs,k.b d r=true:=by
 unfold jg;rw [List.any_eq_true]
theorem Ii {a b:Bool} (h:a=true↔b=true):a=b:=by cases a<;>cases b<;>simp_all
theorem WfE.sub (h:WfE d l) (hs:l'.Sublist l):WfE d l':=⟨h.wd,Nat.le_trans hs.length_le h.few,fun e he=>h.each e (hs.subset he)⟩
theorem mem_offPl {n:Nat} {p:qR×Knd}:p∈pI n t↔ ∃i:Nat,i<n/\p=(((i:Int),-1),.at i t t):=by
 unfold pI;rw [List.mem_map];constructor
 ·rintro ⟨i,hi,rfl⟩; exact ⟨i,List.mem_range.1 hi,rfl⟩
 ·rintro ⟨i,hi,rfl⟩; exact ⟨i,List.mem_range.2 hi,rfl⟩
theorem mem_linPl {ls:List Li} {p:qR×Knd}:p∈rF ls t↔ ∃(i:Nat) (l:Li),ls[i]?=some l/\p=((-1,(i:Int)),.on l t):=by
 unfold rF;rw [List.mem_mapIdx];constructor
 ·rintro ⟨i,hi,rfl⟩; exact ⟨i,ls[i],ZD hi,rfl⟩
 ·rintro ⟨i,l,hl,rfl⟩;obtain ⟨hi,he⟩:=ZE hl;exact ⟨i,hi,by rw [he]⟩
structure SpOK (N:Net) (s:qR):Prop where
 is:(s.2= -1/\0<=s.1/\s.1<N.offs.length)∨(s.1= -1/\0<=s.2/\s.2<N.lines.length)
def MC (a b:qR):Prop:=(b.2= -1/\a.2= -1/\a.1<b.1)∨(b.1= -1/\0<=b.2/\a.2<b.2)
theorem Lg: ∀p∈jZ N t,SpOK N p.1:=fun p hp=>by
 rcases ZH hp with hp|hp
 ·obtain ⟨i,hi,rfl⟩:=mem_offPl.1 hp;exact ⟨.inl ⟨rfl,by show (0:Int)<=i; omega,by show (i:Int)<_; omega⟩⟩
 ·obtain ⟨i,l,hi,rfl⟩:=mem_linPl.1 hp;have:=(ZE hi).1;exact ⟨.inr ⟨rfl,by show (0:Int)<=i; omega,by show (i:Int)<_; omega⟩⟩
theorem pls_lt:(jZ N t).Pairwise fun a b=>MC a.1 b.1:=by
 unfold jZ;refine List.pairwise_append.2 ⟨?_,?_,fun a ha b hb=> ?_⟩
 ·unfold pI;rw [List.pairwise_map];exact List.pairwise_lt_range.imp fun {i j} h=> .inl ⟨rfl,rfl,by show (i:Int)<j; omega⟩
 ·rw [List.pairwise_iff_getElem];intro i j hi hj hij;have hi':i<N.lines.length:=by rw [qI] at hi; exact hi
  have hj':j<N.lines.length:=by rw [qI] at hj; exact hj
  have e1:=(ZE (tT (t:=t) (ZD hi'))).2;have e2:=(ZE (tT (t:=t) (ZD hj'))).2;rw [e1,e2];exact .inr ⟨rfl,by show (0:Int)<=j; omega,by show (i:Int)<j; omega⟩
 ·obtain ⟨i,hi,rfl⟩:=mem_offPl.1 ha;obtain ⟨j,l,hj,rfl⟩:=mem_linPl.1 hb;exact .inr ⟨rfl,by show (0:Int)<=j; omega,by show (-1:Int)<j; omega⟩
theorem E7 {rs:List (List Ev)}:(∀s∈lT N d rs t,SpOK N s)/\(lT N d rs t).Pairwise MC:=by
 unfold lT;refine ⟨fun s hs=> ?_,?_⟩
 ·obtain ⟨p,hp,rfl⟩:=List.mem_map.1 hs;exact Lg p (List.mem_filter.1 hp).1
 ·rw [List.pairwise_map];exact pls_lt.sublist List.filter_sublist
theorem poss_ok {ws:List (List Int)}:(∀s∈ig N d l ws t,SpOK N s)/\(ig N d l ws t).Pairwise MC:=by
 unfold ig
 split
 ·exact E7
 ·exact ⟨fun s hs=>by simp at hs,List.Pairwise.nil⟩
theorem wL {ws:List (List Int)} (h:PossOK N d l ws.length t):ig N d l ws t=lT N d (bU l ws) t:=by
 unfold ig;rw [if_pos (ay h)]
theorem on_iff {l:Li}:(Knd.on l t).b d r=true↔WfE d (r++ [vE l t,wh l t])/\PossJ d r (vE l t) (wh l t) l.trav:=by
 show dec _=true↔_;rw [dec_iff];exact Iff.rfl
end Go.Proofs.YtobaafdejnimkaaGreatDoor
namespace Go.Ord
def okB (b:Nat):Prop:=(65<=b/\b<=90)∨(48<=b/\b<=57)∨b=46
def fD (s:ByteArray) (i:Nat):Nat:=(s.data.getD i 0).toNat
def eT (s:ByteArray):Prop:=1<=s.size/\s.size<=20/\ ∀i,i<s.size->okB (fD s i)
def KZ (h n:Int):Int:=(h*1000003+n%2147483647+1)%2147483647
def dU (l:List Int):Int:=l.foldl KZ 7
theorem Jb (h n:Int):0<=KZ h n/\KZ h n<2147483647:=by
 unfold KZ;omega
theorem yS: ∀(l:List Int) (h:Int),0<=h/\h<2147483647->0<=l.foldl KZ h/\l.foldl KZ h<2147483647
 | [],_,hh=>hh
 | x::l,_,_=>yS l _ (Jb _ x)
theorem jm (l:List Int):0<=dU l/\dU l<2147483647:=yS l 7 (by omega)
def iN (s:ByteArray):List Int:=(List.range s.size).map fun i=>(fD s i:Int)
def oh (s:ByteArray):Int:=dU (iN s)
def cB (s:ByteArray):Int:=dU [0,oh s]
def Px:List Int->List Int
 | a::b::r=>dU [1,a,b]::Px r
 | r=>r
def fC:Int->Int->List Int->Int
 | h,_,[]=>h
 | h,i,b::r=>fC (if b= -1 then h else if i%2=1 then dU [1,b,h] else dU [1,h,b]) (i / 2) r
structure ClimbOK (i:Int) (p:List Int):Prop where
 i0:0<=i
 few:p.length<=20
 each: ∀x∈p,-1<=x/\x<2147483647
structure Dc where
 sl:ByteArray
 fr:Int
 to:Int
 time:Int
 cnt:Int
 root:Int
 give:Int
 take:Int
structure Pp where
 doc:Dc
 label:ByteArray
 idx:Int
 path:List Int
abbrev iZ (x:Int):Prop:=0<=x/\x<2147483647
def jE (ks:List Int):Prop:=1<=ks.length/\ks.length<=6/\ ∀x∈ks,iZ x
structure DocOK (ks:List Int) (d:Dc):Prop where
 keys:jE ks
 lab:eT d.sl
 f0:0<=d.fr
 f1:d.fr<ks.length
 t0:0<=d.to
 t1:d.to<ks.length
 m0:0<=d.time
 m1:d.time<=1000000
 c0:1<=d.cnt
 c1:d.cnt<=40
 r:iZ d.root
 g:iZ d.give
 k:iZ d.take
def fB (ks:List Int) (d:Dc):List Int:= [ks.getD d.fr.toNat 0,oh d.sl,d.fr,d.to,d.time,d.cnt,d.root]
def fG (ks:List Int) (d:Dc):List Int:= [ks.getD d.to.toNat 0,d.give]
def kX (ks:List Int) (d:Dc):Prop:=d.give=dU (fB ks d)/\d.take=dU (fG ks d)
def kR (p:Pp):Prop:=eT p.label/\0<=p.idx/\p.idx<p.doc.cnt
def nW (p:Pp):Prop:=ClimbOK p.idx p.path/\fC (cB p.label) p.idx p.path=p.doc.root
noncomputable def sO (ks:List Int) (p:Pp):Int:=open Classical in
 if¬DocOK ks p.doc then 1 else if¬kX ks p.doc then 330 else if¬kR p then 1 else if¬nW p then 190 else 0
def uK (ks:List Int) (lab:ByteArray) (op t:Int) (p:Pp):Prop:=p.label=lab/\p.doc.fr=op/\p.doc.to≠op/\p.doc.time<=t/\sO ks p=0
def sM (ks:List Int) (ps:List Pp) (lab:ByteArray) (op t:Int):Prop:=ps.length<=100/\ ∃p∈ps,uK ks lab op t p
end Go.Ord
namespace Go.Proofs.YtobaafdejnimkaaGreatDoor
open Tryz
open Go.PF Go.RowKit Go.Ord
variable {d:bA} {l:List Ev} {N:Net}
structure Cl where
 label:ByteArray
 fr:Int
 to:Int
 cls:Int
 acc:Int
 due:Int
 amt:Int
structure ClOK (N:Net) (c:Cl):Prop where
 f0:0<=c.fr
 f1:c.fr<N.offs.length
 t0:0<=c.to
 t1:c.to<N.offs.length
 a0:0<=c.acc
 a1:c.acc<=c.due
 d1:c.due<=1000000
 m0:1<=c.amt
 m1:c.amt<=1000000
noncomputable def iJ (N:Net) (s:qR):Int :=
 if dec (ConsOK keys11 N)=false then -1
 else if s.2= -1/\0<=s.1/\s.1<N.offs.length then (N.offs[s.1.toNat]?.map (·.op)).getD 0
 else if s.1= -1/\0<=s.2/\s.2<N.lines.length then ((N.lines[s.2.toNat]?.bind fun l=>N.offs[l.frm.toNat]?).map (·.op)).getD 0
 else -1
noncomputable def gX (N:Net) (d:bA) (l:List Ev) (ws:List (List Int)) (t:Int):List Int :=
 ((List.range N.ops.length).map fun i:Nat=>(i:Int)).filter fun o=>(ig N d l ws t).any fun s=>decide (iJ N s=o)
noncomputable def kM (H:List Int) (ks:List Int) (ps:List Pp) (lab:ByteArray) (t:Int):Int:=match H with
 | [o]=>if dec (sM ks ps lab o t)=true then -1 else o
 | _=> -1
noncomputable def oK (N:Net) (d:bA) (l:List Ev) (ws:List (List Int)) (ks:List Int) (ps:List Pp) (c:Cl):Int×Int :=
 if fM d l ws c.to c.acc c.due=false then (1,kM (gX N d l ws c.due) ks ps c.label c.due)
 else if kH l ws c.to c.due=true then (2,-1) else (0,-1)
structure DecOK (N:Net) (d:bA) (l:List Ev) (nw:Nat) (c:Cl):Prop where
 sound:SoundOK keys11 N
 fit:FitW d l nw
 same:d.length=N.offs.length
 claim:ClOK N c
noncomputable def iG (N:Net) (d:bA) (l:List Ev) (ws:List (List Int)) (ks:List Int) (ps:List Pp) (c:Cl):(Int×Int)×Int :=
 if dec (DecOK N d l ws.length c)=false then ((0,0),1)
 else if 100<ps.length then ((0,0),2)
 else if ws= [] then ((0,0),280)
 else (oK N d l ws ks ps c,0)
theorem FitW.less {n m:Nat} (h:FitW d l n) (hm:m<=400):FitW d l m:=⟨h.few,hm,h.wd,h.each⟩
theorem Cq (h:ConsOK keys11 N) {s:qR} (hs:SpOK N s):0<=iJ N s/\iJ N s<N.ops.length:=by
 unfold iJ;rw [ay h,if_neg (by simp)];have hop: ∀i:Int,0<=i->i<N.offs.length-> ∃o,N.offs[i.toNat]?=some o/\0<=o.op/\o.op<N.ops.length:=fun i h0 h1=>by
  have hlt:i.toNat<N.offs.length:=by omega
  have:=h.offs.good _ (List.getElem_mem hlt);exact ⟨_,ZD hlt,this.o1,this.o2⟩
 rcases hs.is with ⟨h1,h2,h3⟩|⟨h1,h2,h3⟩
 ·rw [if_pos ⟨h1,h2,h3⟩];obtain ⟨o,ho,h4⟩:=hop _ h2 h3;rw [ho];exact h4
 ·rw [if_neg (by omega),if_pos ⟨h1,h2,h3⟩];have hlt:s.2.toNat<N.lines.length:=by omega
  have hg:=h.lines.good _ (List.getElem_mem hlt);obtain ⟨o,ho,h4⟩:=hop _ hg.f1 hg.f2;rw [ZD hlt];dsimp only [Option.bind_some];rw [ho];exact h4
theorem wY {ws:List (List Int)} {t:Int}:(gX N d l ws t).Pairwise (· < ·):=by
 unfold gX;refine List.Pairwise.filter _ ?_;rw [List.pairwise_map];exact List.pairwise_lt_range.imp fun h=>by omega
theorem hold_mem {ws:List (List Int)} {t o:Int}:o∈gX N d l ws t↔ ∃s∈ig N d l ws t,iJ N s=o:=by
 unfold gX;rw [List.mem_filter,List.any_eq_true];simp only [decide_eq_true_eq];refine ⟨fun h=>h.2,fun h=>⟨?_,h⟩⟩;obtain ⟨s,hs,rfl⟩:=h;have hp:PossOK N d l ws.length t:=by
  unfold ig at hs
  split at hs
  ·rename_i hq;exact dec_iff.1 hq
  ·cases hs
 have hr:=Cq hp.sound.cons (poss_ok.1 s hs);exact List.mem_map.2 ⟨(iJ N s).toNat,List.mem_range.2 (by omega),by omega⟩
theorem wR: ∀ {a b:List Int},a.Pairwise (· < ·)->b.Pairwise (· < ·)->(∀x,x∈a↔x∈b)->a=b
 | [],[],_,_,_=>rfl
 | [],y::b,_,_,h=>absurd ((h y).2 (by simp)) (by simp)
 | x::a,[],_,_,h=>absurd ((h x).1 (by simp)) (by simp)
 | x::a,y::b,ha,hb,h=>by
  have ha':=List.pairwise_cons.1 ha;have hb':=List.pairwise_cons.1 hb;have hxy:x=y:=by
   have h1:=(h x).1 (by simp);have h2:=(h y).2 (by simp);rcases List.mem_cons.1 h1 with e|h1
   ·exact e
   ·rcases List.mem_cons.1 h2 with e|h2
    ·exact e.symm
    ·have:=ha'.1 y h2;have:=hb'.1 x h1;omega
  subst hxy;rw [wR ha'.2 hb'.2 fun z=> ?_];constructor
  ·intro hz;rcases List.mem_cons.1 ((h z).1 (by simp [hz])) with e|e
   ·have:=ha'.1 z hz; omega
   ·exact e
  ·intro hz;rcases List.mem_cons.1 ((h z).2 (by simp [hz])) with e|e
   ·have:=hb'.1 z hz; omega
   ·exact e
theorem AY (H:List Int) (ks:List Int) (ps:List Pp) (lab:ByteArray) (t:Int):(∃o,H= [o]/\ ¬sM ks ps lab o t/\kM H ks ps lab t=o)∨((∀o,H= [o]->sM ks ps lab o t)/\kM H ks ps lab t= -1):=by
 match H with
 | []=>exact .inr ⟨fun o h=>(by cases h),rfl⟩
 | [o] =>
  by_cases h:sM ks ps lab o t
  ·exact .inr ⟨fun o' e=>(by cases e; exact h),by show (if dec (sM ks ps lab o t)=true then (-1:Int) else o)= -1; rw [if_pos (ay h)]⟩
  ·exact .inl ⟨o,rfl,h,by show (if dec (sM ks ps lab o t)=true then (-1:Int) else o)=o; rw [az h]; rfl⟩
 | a::b::r=>exact .inr ⟨fun o h=>(by cases h),rfl⟩
end Go.Proofs.YtobaafdejnimkaaGreatDoor
namespace Go.PF
open Go.RowKit
section
variable {P:Program} {w:World}
end
section
variable {P:Program} {r:Option Nat} {Q:Exit->Act->World->Prop} {N:Nat} {ds:List Deferred} {ops rest:List Oper} {E:Env} {w:World}
variable {d:Option Tmp} {ty:TypeId} {pos:String} {af:Array Edge} {gu:Option (Nat×Bool)} {s x:Operand}
theorem BI {ρ:Operand->Value} {A:Option Addr} {l c:Nat} {t e:TypeId} (ht:P.underlying t=some (.slice e)) (hx:ρ x= .slice A l c):(execOp ρ ⟨d,.call ⟨.builtin .cap,#[x],#[t]⟩,ty,pos,af,gu⟩).run P w= .ok (.value (.int .i64 (c:Int))) w:=by simp [execOp,resolve,Go.invoke,Go.builtin,hx,Builtin.cap_,run_underlying ht,goInt]
theorem rU {cx G:Option Bool} {A:Option Addr} {l c:Nat} {t e:TypeId} (hg:gd ops E gu=some G) (hd:be N d=true) (ht:P.underlying t=some (.slice e)) (hx:ev E x=some (cx,.slice A l c)) (ix:aV G->aV cx)
  (next:TW P r Q N ds ops rest (ins E d G (.int .i64 (c:Int))) w):TW P r Q N ds ops (⟨d,.call ⟨.builtin .cap,#[x],#[t]⟩,ty,pos,af,gu⟩::rest) E w :=
 iP hg hd rfl (fun hG _ ha=>BI ht (ha.eval hx (ix hG))) next
end
end Go.PF
namespace Go.PF
open Go.RowKit
section
variable {P:Program} {w:World}
theorem qC (t ti ty e:TypeId) (i:TypeInfo) (z:Value) (ht:P.underlying t=some (.slice e)) (hti:P.underlying ti=some (.int .i64)) (hi:P.info? e=some i) (hz:i.zero=some z) (hs:0<i.size)
  (n:Nat) (h0:0<n) (h63:(n:Int)<=9223372036854775807) (h48:n*i.bytes<=281474976710656) :
  (Builtin.append_ #[t,ti] ty #[.slice none 0 0,.int .i64 (n:Int)]).run P w =
   .ok (.slice (some ⟨w.heap.size,0,none⟩) n (grownCap w n 0 e)) (w.drew.alloc (.cells (Builtin.zeroCells z.cells n++Builtin.zeroCells z.cells (grownCap w n 0 e-n)) e)):=by
 have hn:n≠0:=by omega
 have h63': ¬(9223372036854775807<(n:Int)):=by omega
 have hw:IntKind.i64.wrap (n:Int)=n:=dO (by omega);have hneg: ¬((n:Int)<0):=by omega
 have h48a: ¬(281474976710656<(n:Int)*(i.bytes:Int)):=by
  have:((n*i.bytes:Nat):Int)<=281474976710656:=by omega
  rw [Int.natCast_mul] at this;omega
 have hle: ¬((n:Int)<=0):=by omega
 have hs0: ¬i.size=0:=by omega
 have hns: ¬n*i.size=0:=Nat.mul_ne_zero hn hs0;have h48': ¬(281474976710656<Builtin.nextslicecap n 0*i.bytes):=by rw [nextslicecap_zero h0]; omega
 simp [Builtin.append_,run_underlying ht,run_underlying hti,sizeOf,typeInfo,zeroValue,hi,hz,hs0,hns,hw,hneg,h48a,hle,asInt,asIntOf,hn,h63',h48',Question.forced,run_firstCells_none,newRow,grownCap]
end
section
variable {P:Program} {r:Option Nat} {Q:Exit->Act->World->Prop} {N:Nat} {ds:List Deferred} {ops rest:List Oper} {E:Env} {w:World}
variable {d:Option Tmp} {ty:TypeId} {pos:String} {af:Array Edge} {gu:Option (Nat×Bool)} {s x:Operand}
theorem zK {t ti e:TypeId} {sz bytes n:Nat} (hg:gu=none) (hd:be N d=true) (hok:eZ P t e sz bytes=true) (hti:P.underlying ti=some (.int .i64)) (hs:ev E s=some (none,.slice none 0 0)) (hx:ev E x=some (none,.int .i64 (n:Int))) (h0:0<n) (hn:n<=1000000000) (hb:bytes<=1000) (hsz:0<sz)
  (next: ∀g cap w',n<=cap->OwnS w' e sz (.slice (some ⟨g,0,none⟩) 0 cap) 0 []->w.heap.size=g->Below w.heap.size w w'->TW P r Q N ds ops rest (ins E d none (.slice (some ⟨g,0,none⟩) n cap)) w') :
  TW P r Q N ds ops (⟨d,.call ⟨.builtin .append,#[s,x],#[t,ti]⟩,ty,pos,af,gu⟩::rest) E w:=by
 obtain ⟨i,z,hu,hi,hz0,hsize,hby,hzs,_⟩:=mX hok;have hmul:n*i.bytes<=281474976710656:=by
  rw [hby];exact Nat.le_trans (Nat.mul_le_mul hn hb) (by decide)
 have hr:=qC (P:=P) (w:=w) t ti ty e i z hu hti hi hz0 (by omega) n h0 (by omega) hmul;have hge:=grownCap_ge w n 0 e;have hle:=grownCap_le_maxLen w n 0 e (by simp only [maxLen]; omega);refine iq (v:= .slice (some ⟨w.heap.size,0,none⟩) n (grownCap w n 0 e)) (w':=w.drew.alloc (.cells (Builtin.zeroCells z.cells n++Builtin.zeroCells z.cells (grownCap w n 0 e-n)) e)) hg hd rfl (fun a ha=> ?_) ?_
 ·simp only [execOp,resolve,Go.invoke,Go.builtin,Sem.run_bind,Sem.run_pure,Result.andThen_ok,List.map_toArray,List.map_cons,List.map_nil,ha.eval hs trivial,ha.eval hx trivial,hr]
 ·refine next _ _ _ hge ⟨by simp,.inr ⟨w.heap.size,grownCap w n 0 e,_,rfl,ZB,heap_alloc_new w.drew _,ZB,hle,?_,by simp⟩⟩ rfl ?_
  ·simp only [Builtin.zeroCells,Array.size_append,Array.size_map,Array.size_range,hzs];rw [<-Nat.add_mul,Nat.add_sub_cancel' hge]
  ·exact ((ZA).trans ⟨rfl,rfl,rfl,ZC,fun _ _=>rfl⟩:Below w.heap.size w w.drew).alloc ZC _
end
end Go.PF
namespace Go.Proofs.YtobaafdejnimkaaGreatDoor
open Tryz
open Go.PF Go.RowKit Go.Ord
attribute [local irreducible] TW CW KW DW
variable {w:World} {v:Value}
theorem KB {g:Nat} {t:TypeId} {n:Nat} (ps:List (List Value×Ev)) (h:Blk w g t (ps.flatMap (·.1))) (hn:n=ps.length) (hp: ∀p∈ps,evT.rep (fun k=>k<w.heap.size) w p.1 p.2) (hs:ps.length<=1000000):SE w (.slice (some ⟨g,0,none⟩) n n) (ps.map (·.2)):=by
 subst hn;exact dR (T:=evT) (F:=fun k=>k<w.heap.size) (w:=w) (e:=t) (v:= .slice (some ⟨g,0,none⟩) ps.length ps.length) (n:=ps.length) ps hp (by decide) (bu h (pU (fun p:List Value×Ev=>p.1) 4 ps (fun p hp'=>evT.len _ _ _ _ (hp p hp'))) (by omega)) rfl (fun q hq=>by simp [Value.ownBlock] at hq; subst hq; exact h.lt) (by omega)
theorem Ma:Ty.Nb evT:=⟨by decide,fun F w cs e ⟨v,h,h1,h2,h3,hs⟩=>⟨v,h,h1,h2,h3,hs.nb sG⟩⟩
theorem JU:Ty.One evT:=fun _ _ _ _ ⟨v,h,_,_,_,A,cap,hv,_⟩ u hu=>by
 rw [h] at hu;simp at hu;rcases hu with rfl|rfl|rfl|rfl
 ·rfl
 ·rfl
 ·rfl
 ·rw [hv]; rfl
abbrev PG (b:Nat) (w:World) (v:Value) (rs:List (List Ev)):Prop:=SL (sliceT evT) (fun k=>b<=k/\k<w.heap.size) w v rs
abbrev NK (w:World) (v:Value) (rs:List (List Ev)):Prop:=SL (sliceT evT) (fun k=>k<w.heap.size) w v rs
theorem xJ {w':World} {l:List (List Ev)} (h:NK w v l) (hb:Below w.heap.size w w'):NK w' v l:=h.step (lU xc) hb
theorem vg {u:Value} {l:List Ev} {ws:List (List Int)} {F:Nat->Prop} (hl:SE w v l) (hS:SL (sliceT bC) F w u ws) (hsm:l.length<=1000000) (hne: ∀e∈l,e.needs.length<=1000000) (hw:ws.length<=1000000) :
  Gives prog 59 #[v,u] w fun x w'=>Below w.heap.size w w'/\PG w.heap.size w' x (bU l ws):=by
 obtain ⟨B,bcap,rfl,_⟩:=hS.form;refine gv (f:=59) ?_;refine ag ?_;refine aJ [0,8,9] (fun x:Nat×Value×List (List Value×List Ev)=> [(5,none,x.2.1),(10,none,.int .i64 (x.1:Int))])
  (fun x W=>x.1<=ws.length/\Below w.heap.size w W/\RowB (sliceT evT) W 31 w.heap.size x.2.1 x.2.2/\x.2.2.map (·.2)=bU l (ws.take x.1)) (fun x=>ws.length-x.1) (0,.slice none 0 0,[]) ⟨ZB,ZA,RowB.nil _ _ _ _,rfl⟩ ?_
 rintro ⟨k,rv,ps⟩ W ⟨hk,hB,hR,hmap⟩;dsimp only at hk hR hmap;have hpl:ps.length=k:=by
  have:=congrArg List.length hmap;simp [bU] at this;omega
 refine ag ?_;refine ai rfl (fun hlt=> ?_) (fun hge=> ?_)
 ·have hSW:=hS.below hB;obtain ⟨ad,rfl⟩:=hSW.addr (by omega);obtain ⟨S,hS1,hSm⟩:=bD (l:=ws) (k:=k) (by omega);obtain ⟨sv,hcell,hrow⟩:=hSW.row hS1;refine ag ?_;refine aj rfl hcell ?_;refine ag ?_;refine aA rfl (Jq (aY hl hB) hrow hsm hne) ?_;rintro rv1 w1 ⟨b1,h1⟩;obtain ⟨A1,cap1,rfl,_⟩:=h1.form;refine ak 31 _ rfl rfl rfl Mc (aa rfl ct ah) rfl rfl rfl rfl rfl ?_;rintro g2 w2 f2;have hR2:=(hR.step b1).step f2.below;have hB2:=(hB.step b1).step f2.below;have s2:=(b1.step f2.below).size;refine aK [.slice A1 (bz l S).length cap1] rfl rfl OO rfl hR2.1 rfl rfl (fun j v hj=>⟨⟨g2,0,none⟩,rfl,f2.blk.fld hj⟩) (fun v hv=>by simp at hv; subst hv; rfl) (by omega) (by omega) ?_;rintro rv' w3 hO3 hg3 hn3;refine ag ?_;have hR3:RowB (sliceT evT) w3 31 w.heap.size rv' (ps++ [([.slice A1 (bz l S).length cap1],bz l S)]):=hR2.app hO3 hg3 hn3 ⟨_,rfl,((h1.below f2.below).nb Ma).wider fun q hq=>⟨Nat.le_trans hB.size hq.1.1,hq.2,fun e=>by have:=hR.1.lt e; have:=hq.1.1; omega⟩⟩ hB2.size;refine aC (k+1,rv',ps++ [([.slice A1 (bz l S).length cap1],bz l S)]) ⟨by show k+1<=ws.length; omega,hB2.grown hg3 hB2.size hR.2.2,hR3,?_⟩;show List.map Prod.snd (ps++ [_])=bU l (ws.take (k+1));unfold bU at hmap ⊢
  rw [List.map_append,hmap,ZG,hS1];simp
 ·refine ag ?_;refine aW rfl ⟨hB,?_⟩;have:=hR.sl (by decide);rw [hmap,List.take_of_length_le (by omega)] at this;exact this
theorem JQ {n:Nat} (hn:n<=1000000000):Gives prog 190 #[.slice none 0 0,.int .i64 (n:Int)] w fun u w'=>Below w.heap.size w w'/\OwnS w' 60 4 u 0 []/\ ∀g,u.ownBlock=some g->w.heap.size<=g:=by
 refine gv (f:=190) ?_;refine ag ?_;refine ai rfl (fun hneg=> ?_) (fun hpos=> ?_)
 ·exfalso;omega
 refine ag ?_;refine rU rfl rfl underlying31 rfl ct ?_;refine ag ?_;refine aI [0,1,4,16] rfl ?_;refine ai rfl (fun hgt=> ?_) (fun hle=> ?_)
 ·refine ag ?_;refine rU rfl rfl underlying31 rfl ct ?_;refine aT zD rfl ⟨ct,ct,trivial⟩ (fun _=>by (try dsimp only); omega) ?_;refine ag ?_;rw [show ((n:Int)-((((0:Nat):Int))-((0:Nat):Int)))=(n:Int) by omega];refine zK rfl rfl uS underlying3 rfl rfl (by omega) hn (by decide) (by decide) ?_;rintro g cap w1 hcap hO hg hb;refine ag ?_;refine aT zD rfl ⟨ct,ct,trivial⟩ (fun _=>by (try dsimp only); omega) ?_;refine ag ?_;refine aW rfl ⟨hb,hO,fun q hq=>by simp [Value.ownBlock] at hq; omega⟩
 ·refine ag ?_;refine aW rfl ⟨ZA,OwnS.nil _ _ _,fun g hg=>by simp [Value.ownBlock] at hg⟩
theorem vU {a b:List Ev} (hv:SL (sliceT evT) (fun k=>k<w.heap.size) w v [a,b]) (ha:a.length<=1000000) (hb:b.length<=1000000) :
  Gives prog 113 #[v] w fun u w'=>Below w.heap.size w w'/\SE w' u (a++b):=by
 obtain ⟨A,cap,rfl,_⟩:=hv.form;obtain ⟨ad,rfl⟩:=hv.addr (by simp);have hsum: ∀k,(([a,b].take k).flatten).length<=2000000:=fun k=>by
  rcases k with _|_|k<;>simp<;>omega
 refine gv (f:=113) ?_;refine ag ?_;refine aJ [0,9,10] (fun k:Nat=> [(3,none,.int .i64 ((([a,b].take k).flatten).length:Int)),(11,none,.int .i64 (k:Int))])
  (fun k W=>k<=2/\Below w.heap.size w W) (fun k=>2-k) 0 ⟨by omega,ZA⟩ ?_
 have h2l: [a,b].length=2:=rfl;rintro k W ⟨hk,hB⟩;have hsk:=hsum k;refine ag ?_;refine ai rfl (fun hlt=> ?_) (fun hge=> ?_)
 ·have hk2:k< [a,b].length:=by simp; omega
  obtain ⟨r,hr⟩: ∃r,[a,b][k]?=some r:=⟨_,ZD hk2⟩;have hrl:r.length<=1000000:=by
   have:=ZF hr;simp at this;rcases this with rfl|rfl<;>assumption
  obtain ⟨rv,hcell,hrow⟩:=(hv.below hB).row hr;obtain ⟨R,rcap,rfl,_⟩:=hrow.form;refine ag ?_;refine aj rfl hcell ?_;refine ag ?_;refine aI [0,3,5,9,10,11,20] rfl ?_;refine ai rfl (fun hneg=> ?_) (fun hpos=> ?_)
  ·exfalso;omega
  ·refine ag ?_;refine aC (k+1) ⟨by omega,hB⟩ (hp:= ?_);rw [ZG,hr];simp only [Option.toList_some,List.flatten_append,List.length_append,List.flatten_cons,List.flatten_nil,List.append_nil,Int.natCast_add];rfl
 have hke:k=2:=by omega
 subst hke;refine ag ?_;refine aA rfl (JQ (n:=(([a,b].take 2).flatten).length) (by omega)) ?_;rintro u1 w1 ⟨c1,hO1,ho1⟩;have hB1:=hB.step c1;have hs1:=hB.size;refine ag ?_;refine aJ [25,26] (fun x:Nat×Value×List (List Value×Ev)=> [(6,none,x.2.1),(27,none,.int .i64 (x.1:Int))])
  (fun x W=>x.1<=2/\Below w.heap.size w W/\OwnS W 60 4 x.2.1 x.2.2.length (x.2.2.flatMap (·.1))/\(∀g,x.2.1.ownBlock=some g->w.heap.size<=g)/\x.2.2.map (·.2)=([a,b].take x.1).flatten/\ ∀p∈x.2.2,evT.rep (fun k=>k<w.heap.size) w p.1 p.2) (fun x=>2-x.1) (0,u1,[]) ⟨by show 0<=2; omega,hB1,hO1,fun g hg=>by have:=ho1 g hg; omega,rfl,fun p hp=>by cases hp⟩ ?_
 rintro ⟨k,ov,ps⟩ W ⟨hk,hB2,hO,hob,hmap,hrep⟩;dsimp only at hk hO hob hmap hrep;have hsk:=hsum k;have hpl:ps.length<=2000000:=by
  have:=congrArg List.length hmap;simp only [List.length_map] at this;omega
 refine ag ?_;refine ai rfl (fun hlt=> ?_) (fun hge=> ?_)
 ·have hk2:k< [a,b].length:=by simp; omega
  obtain ⟨r,hr⟩: ∃r,[a,b][k]?=some r:=⟨_,ZD hk2⟩;have hrl:r.length<=1000000:=by
   have:=ZF hr;simp at this;rcases this with rfl|rfl<;>assumption
  obtain ⟨rv,hcell0,hrow0⟩:=hv.row hr;have hcell:=(hB2.cell (block_lt_of_cell hcell0)).trans hcell0;obtain ⟨R,rcap,rfl,_⟩:=hrow0.form;obtain ⟨qs,hq1,hq2,hq3,hq4⟩:=hrow0.flat (by decide);refine ag ?_;refine aj rfl hcell ?_;refine ag ?_;refine aK (qs.flatMap (·.1)) rfl rfl uS rfl hO rfl (by rw [hq3]; rfl) (fun j u hj=>by
   obtain ⟨ad',h1,h2⟩:=hq4 j u hj;exact ⟨ad',h1,(hB2.cell (block_lt_of_cell h2)).trans h2⟩) (Gu JU hq2) (by omega) (by omega) ?_
  rintro ov' w2 o2 hg2 hn2;refine ag ?_;have hql:qs.length=r.length:=by rw [<-hq1]; simp
  refine aC (k+1,ov',ps++qs) ⟨by show k+1<=2; omega,hB2.grown hg2 hB2.size hob,?_,fun g hg=> ?_,?_,fun p hp=> ?_⟩
  ·show OwnS w2 _ 4 ov' (ps++qs).length ((ps++qs).flatMap (·.1));rw [List.flatMap_append,List.length_append,hql];exact o2
  ·rcases hn2 with h|h
   ·exact hob g (by rw [<-h]; exact hg)
   ·rw [h] at hg; cases hg; exact hB2.size
  ·show (ps++qs).map (·.2)=([a,b].take (k+1)).flatten;rw [List.map_append,hmap,hq1,ZG,hr];simp
  ·rcases ZH hp with h|h
   ·exact hrep p h
   ·exact hq2 p h
 ·have hke:k=2:=by omega
  subst hke;have e:([a,b].take 2).flatten=a++b:=by simp
  rw [e] at hmap;refine ag ?_;refine aW rfl ⟨hB2,?_⟩;have:=uH (by decide) hB2 hrep hO rfl (by omega);rw [hmap] at this;exact this.wider fun q hq=>hq.elim (fun h=>by have:=hB2.size; omega) (fun h=>hO.lt h)
def NP (K:Knd) (r:List Ev) (W:World) (ev lg:Value):Prop:=match K with
 | .at o f t=>SE W ev (r++ [xD o f t])/\lg= .slice none 0 0
 | .on l t=>SE W ev (r++ [vE l t,wh l t])/\ ∃la lc,lg= .slice (some la) 1 lc/\LegAt W la r.length l.trav
def FormOK (w:World) (k:FuncId) (caps:List Value) (K:Knd):Prop:= ∀(r:List Ev) (rv:Value) (w':World),Below w.heap.size w w'->SE w' rv r->r.length<=14 ->
 Gives prog k (rv::caps).toArray w' fun u w''=>Below w'.heap.size w' w''/\ ∃ev lg,u= .tuple #[ev,lg]/\NP K r w'' ev lg
theorem FormOK.step {w w':World} {k:FuncId} {caps:List Value} {K:Knd} (h:FormOK w k caps K) (hb:Below w.heap.size w w'):FormOK w' k caps K:=fun r rv w2 h2=>h r rv w2 (hb.step h2)
def Knd.OK:Knd->Prop
 | .at o f t=>eB o/\eB f/\eB t
 | .on l t=>eB l.frm/\eB l.to/\0<=l.trav/\l.trav<=1000000/\0<=t/\t<=1000000
theorem EX {g1 g2 g3:Nat} {o f t:Int} (h1:Blk w g1 3 [.int .i64 o]) (h2:Blk w g2 3 [.int .i64 f]) (h3:Blk w g3 3 [.int .i64 t]) (hI:Knd.OK (.at o f t)) :
  FormOK w 112 [.pointer (some ⟨g1,0,none⟩),.pointer (some ⟨g2,0,none⟩),.pointer (some ⟨g3,0,none⟩)] (.at o f t):=by
 intro r rv w1 hb1 hr hlen;obtain ⟨R,rcap,rfl,_⟩:=hr.form;refine gv (f:=112) ?_;refine ag ?_;refine aj rfl ((h1.next hb1).cell 0) ?_;refine aj rfl ((h2.next hb1).cell 0) ?_;refine aj rfl ((h3.next hb1).cell 0) ?_;refine aH [0,1,2] _ [.int .i64 o,.int .i64 f,.int .i64 t,.slice none 0 0] rfl rfl rfl (aa rfl ct (aa rfl ct (aa rfl ct ah))) (by kernel_rfl) ?_;refine ak 60 _ rfl rfl rfl qP (aa rfl ct ah) rfl rfl rfl rfl rfl ?_;rintro g4 w4 f4;refine ak 31 _ rfl rfl rfl Mc (aa rfl ct (aa rfl ct ah)) rfl rfl rfl rfl rfl ?_;rintro g5 w5 f5;have b5:=f4.below.step f5.below;have e5:SE w5 (.slice (some ⟨g4,0,none⟩) 1 1) [xD o f t]:=KB [([.int .i64 o,.int .i64 f,.int .i64 t,.slice none 0 0],xD o f t)] (f4.blk.next f5.below) rfl (fun p hp=>by
  simp only [List.mem_cons,List.not_mem_nil,or_false] at hp;subst hp;exact ⟨_,rfl,hI.1,hI.2.1,hI.2.2,SL.nil _ _ _⟩) (by simp)
 have r5:=aY hr b5;have v5:NK w5 (.slice (some ⟨g5,0,none⟩) 2 2) [r,[xD o f t]]:=dR (T:=sliceT evT) (F:=fun k=>k<w5.heap.size) (w:=w5) (e:=31) (n:=2) [([.slice R r.length rcap],r),([.slice (some ⟨g4,0,none⟩) 1 1],[xD o f t])] (fun p hp=>by
  simp only [List.mem_cons,List.not_mem_nil,or_false] at hp;rcases hp with rfl|rfl
  ·exact ⟨_,rfl,r5⟩
  ·exact ⟨_,rfl,e5⟩) (by decide) (bu f5.blk rfl (by omega)) rfl (fun q hq=>by simp [Value.ownBlock] at hq; subst hq; exact f5.blk.lt) (by simp)
 refine aA rfl (vU v5 (by omega) (by simp)) ?_;rintro u6 w6 ⟨b6,h6⟩;refine ag ?_;refine jH rfl ⟨b5.step b6,_,_,rfl,h6,rfl⟩
end Go.Proofs.YtobaafdejnimkaaGreatDoor
namespace Go.PF
open Go.RowKit
section
variable {P:Program} {N:Nat} {ds:List Deferred} {ops rest:List Oper} {D:DE} {w:World} {G:Option Bool} {Fin:DE->Prop}
variable {d:Option Tmp} {ty:TypeId} {pos:String} {af:Array Edge} {gu:Option (Nat×Bool)}
variable {x:Operand} {cx:Option Bool}
theorem nG {t:TypeId} (e:TypeId) {sz len:Nat} {parts:Array (Nat×Operand)} (xs:List Operand) {es:List Ent} (ψ:Value->World->Prop) (hm:Ent.mono (.pr ψ)) (hg:iY ops D gu=some G) (hd:be N d=true) (hp:parts.toList=number xs) (he:dA P t e sz=true)
  (hx:PArgs (Oper.looksAt ops.toArray ⟨d,.buildSlice t len parts,ty,pos,af,gu⟩) N ds D G xs es) (hl:len=xs.length) (hsm:Nat.ble (xs.length*sz) 16777216=true) (hpos:Nat.blt 0 xs.length=true)
  (h:aV G-> ∀vs w1,Below w.heap.size w w1->Sats es vs w1->(∀v∈vs,v.cells.size=sz)/\ ∀g w',Fresh w1 w' g e (vs.flatMap (fun v=>v.cells.toList))->ψ (.slice (some ⟨g,0,none⟩) len len) w')
  (next:DW P N ds .weak ops w Fin rest (dM D d G (.pr ψ))):DW P N ds .weak ops w Fin (⟨d,.buildSlice t len parts,ty,pos,af,gu⟩::rest) D:=by
 refine qU hg hd rfl hm (fun hG a w' hb ha=> ?_) next
 have hs:=hx (fun t ht=>dP ?_) a w' ha hG
 ·obtain ⟨h1,h2⟩:=h hG _ _ hb hs;refine ⟨_,_,iO hp (by simpa using hl) he rfl h1 (by simpa using Nat.le_of_ble_eq_true hsm) (by simpa using blt_iff.1 hpos),(ZA).alloc ZC _,?_⟩;have:=h2 _ _ (ji w' e _);rw [hl] at this;show ψ _ _;simpa using this
 ·simp only [Op.operands];rw [hp];simp only [number,List.map_map];rw [List.mem_map];obtain ⟨i,hi,hit⟩:=List.getElem_of_mem ht;exact ⟨(.tmp t,i),by rw [List.mem_zipIdx_iff_getElem?]; rw [ZD hi,hit],rfl⟩
end
end Go.PF
namespace Go.Proofs.YtobaafdejnimkaaGreatDoor
open Tryz
open Go.PF Go.RowKit Go.Ord
attribute [local irreducible] TW CW KW DW
variable {w:World} {t:Int} {K:Knd}
theorem Jo {g1 g2:Nat} {l:Li} (h1:Blk w g1 113 (Cv l)) (h2:Blk w g2 3 [.int .i64 t]) (hI:Knd.OK (.on l t)) :
  FormOK w 191 [.pointer (some ⟨g1,0,none⟩),.pointer (some ⟨g2,0,none⟩)] (.on l t):=by
 intro r rv w1 hb1 hr hlen;obtain ⟨R,rcap,rfl,_⟩:=hr.form;obtain ⟨i1,i2,i3,i4,i5,i6⟩:=hI;have B1:=h1.next hb1;have B2:=h2.next hb1;have j3:eB (t-l.trav+1):=⟨by omega,by omega⟩;have j4:eB (t-1):=⟨by omega,by omega⟩;have j5:eB (t+1):=⟨by omega,by omega⟩;have j6:eB (t+l.trav-1):=⟨by omega,by omega⟩;refine gv (f:=191) ?_;refine ag ?_;refine aj rfl (B1.fld rfl) ?_;refine aj rfl (B2.cell 0) ?_;refine ag ?_;refine aj rfl (B1.fld rfl) ?_;refine ag ?_;refine aj rfl (B2.cell 0) ?_;refine ag ?_;refine aH [0,1,2] _ [.int .i64 l.frm,.int .i64 (t-l.trav+1),.int .i64 (t-1),.slice none 0 0] rfl rfl rfl (aa rfl ct (aa rfl ct (aa rfl ct ah))) (by kernel_rfl) ?_;refine aM rfl nY rfl is60.q rfl rfl ?_;rintro g3 w3 f3;refine ag ?_;refine aj rfl ((B1.next f3.below).fld rfl) ?_;refine aj rfl ((B2.next f3.below).cell 0) ?_;refine ag ?_;refine aj rfl ((B2.next f3.below).cell 0) ?_;refine ag ?_;refine aj rfl ((B1.next f3.below).fld rfl) ?_;refine ag ?_;refine aH [0,1,2] _ [.int .i64 l.to,.int .i64 (t+1),.int .i64 (t+l.trav-1),.slice none 0 0] rfl rfl rfl (aa rfl ct (aa rfl ct (aa rfl ct ah))) (by kernel_rfl) ?_;refine aM rfl nY rfl is60.q rfl rfl ?_;rintro g4 w4 f4;refine ag ?_
 have b14:=f3.below.step f4.below;refine aj rfl ((B1.next b14).fld rfl) ?_;refine aH [0,1,2] _ [.int .i64 (r.length:Int),.int .i64 ((r.length:Int)+1),.int .i64 l.trav] rfl rfl rfl (aa rfl ct (aa rfl ct (aa rfl ct ah))) (by kernel_rfl) ?_;refine aM rfl xC rfl is133.q rfl rfl ?_;rintro g5 w5 f5;refine ag ?_;refine aI [0,1,2,4,5,6,7,8] rfl ?_;refine bg mixed (by kernel_rfl) ?_;refine aZ ?_;have b15:=b14.step f5.below;have B3:=(f3.blk.next f4.below).next f5.below;have B4:=f4.blk.next f5.below;have B5:=f5.blk;have r5:=aY hr b15;refine dx rfl (fun _ _ hv=>B3.fld hv) ?_;refine dx rfl (fun _ _ hv=>B4.fld hv) ?_;refine cK 60 _ rfl rfl rfl qP (ax rfl ct (ax rfl ct aP)) rfl rfl rfl rfl rfl ?_;refine nG 31 _ (fun u W=>NK W u [r,[vE l t,wh l t]]) (fun _ _ _ hb h=>xJ h hb) rfl rfl rfl Mc (bJ rfl ct (bJ rfl ct fK)) rfl rfl rfl (fun _ vs w' hb' hs=> ?_) ?_
 ·obtain ⟨_,b,rfl,rfl,⟨gb,rfl,Bb⟩⟩:=Sats.two hs;refine ⟨by simp [Value.cells],fun gg w'' ff=> ?_⟩;have e2:SE w'' (.slice (some ⟨gb,0,none⟩) 2 2) [vE l t,wh l t]:=KB [([.int .i64 l.frm,.int .i64 (t-l.trav+1),.int .i64 (t-1),.slice none 0 0],vE l t),([.int .i64 l.to,.int .i64 (t+1),.int .i64 (t+l.trav-1),.slice none 0 0],wh l t)] (Bb.next ff.below) rfl (fun p hp=>by
   simp only [List.mem_cons,List.not_mem_nil,or_false] at hp;rcases hp with rfl|rfl
   ·exact ⟨_,rfl,i1,j3,j4,SL.nil _ _ _⟩
   ·exact ⟨_,rfl,i2,j5,j6,SL.nil _ _ _⟩) (by simp)
  have r2:SE w'' (.slice R r.length rcap) r:=aY r5 (hb'.step ff.below);exact dR (T:=sliceT evT) (F:=fun k=>k<w''.heap.size) (w:=w'') (e:=31) (n:=2) [([.slice R r.length rcap],r),([.slice (some ⟨gb,0,none⟩) 2 2],[vE l t,wh l t])] (fun p hp=>by
   simp only [List.mem_cons,List.not_mem_nil,or_false] at hp;rcases hp with rfl|rfl
   ·exact ⟨_,rfl,r2⟩
   ·exact ⟨_,rfl,e2⟩) (by decide) (bu ff.blk rfl (by omega)) rfl (fun q hq=>by simp [Value.ownBlock] at hq; subst hq; exact ff.blk.lt) (by simp)
 refine iR (.pr (fun u W=>SE W u (r++ [vE l t,wh l t]))) (fun _ _ _ hb h=>aY h hb) rfl rfl ie113.q rfl ct (bJ rfl ct fK) (fun _ w' hb' vs hs=> ?_) ?_
 ·obtain ⟨u,rfl,hu⟩:=Sats.one hs;exact vU hu (by omega) (by simp)
 refine dx rfl (fun _ _ hv=>B5.fld hv) ?_;refine cK 133 _ rfl rfl rfl KF (ax rfl ct aP) rfl rfl rfl rfl rfl ?_;refine fP rfl rfl rfl ct (fun _ _ _ hb h=>aY h hb) ?_;refine fP rfl rfl rfl ct (Lies.mono _ _ _) ?_;refine dD (qw [4,5] rfl fun vs w9 hb9 hs9=>aD ?_);obtain ⟨v4,v5,rfl,h4,h5⟩:=Sats.two hs9;refine pg ?_;obtain ⟨gl,rfl,hBl⟩:=h5;refine jH rfl ⟨b15.step hb9,_,_,rfl,h4,⟨gl,0,none⟩,1,rfl,⟨fun j u hj=>hBl.fld hj⟩⟩
theorem Mo {gf gd k:Nat} {caps:List Value} {dv:Value} {d:bA} {rs:List (List Ev)} (hf:Blk w gf 101 [.func (.func k) #[] caps.toArray]) (hd:Blk w gd 30 [dv]) (hD:SD w dv d) (hk:enters prog k=true) (hF:FormOK w k caps K) (hKI:K.OK) (hlen: ∀r∈rs,r.length<=14) :
  BP w 111 [.pointer (some ⟨gf,0,none⟩),.pointer (some ⟨gd,0,none⟩)] rs (K.b d):=by
 intro r hr rv w1 hb1 hrv;have hrv1:SE w1 rv r:=hrv.wider fun q hq=>Nat.lt_of_lt_of_le hq hb1.size;refine gv (f:=111) ?_;refine ag ?_;refine jw [0,1,2,4] rfl ?_;refine aj rfl ((hf.next hb1).cell 0) ?_;refine ag ?_;refine bK rfl rfl hk rfl (aa rfl ct ah) (hF r rv _ hb1 hrv1 (hlen r hr)) ?_;rintro y2 w2 ⟨b2,ev,lg,rfl,hR⟩;have B2:=(hd.next hb1).next b2;have hD2:=aU hD (hb1.step b2);refine ag ?_;refine aj rfl (B2.cell 0) ?_;refine ag ?_;have key:Gives prog 33 #[dv,ev,lg] w2 fun x w'=>Below w2.heap.size w2 w'/\ ∃v,x= .tuple #[v,.bool (K.b d r)]:=by
  cases K with
  | «at» o f t =>
   obtain ⟨h1,rfl⟩:=hR
   exact yX hD2 h1
  | on l t =>
   obtain ⟨h1,la,lc,rfl,h2⟩:=hR;exact L4 hD2 h1 h2 rfl rfl ⟨hKI.2.2.1,hKI.2.2.2.1⟩
 refine aA rfl (key) ?_;rintro y3 w3 ⟨b3,tv,rfl⟩;refine ag ?_;refine aW rfl ⟨b2.step b3,rfl⟩
theorem KG {dv sv:Value} {d:bA} {rs:List (List Ev)} {k:FuncId} {caps:List Value} (hD:SD w dv d) (hS:NK w sv rs) (hk:enters prog k=true) (hF:FormOK w k caps K) (hKI:K.OK) (hlen: ∀r∈rs,r.length<=14) :
  Gives prog 58 #[dv,sv,.func (.func k) #[] caps.toArray] w fun x w'=>Below w.heap.size w w'/\x= .bool (jg d rs K):=by
 obtain ⟨A,cap,rfl,_⟩:=hD.form;refine gv (f:=58) ?_;refine ag ?_;refine aG rfl rfl rfl rfl ?_;rintro g1 w1 f1;refine aG rfl rfl rfl rfl ?_;rintro g2 w2 f2;refine ag ?_;refine aN rfl rfl (aa rfl ct (aa rfl ct ah)) ?_;have b2:=f1.below.step f2.below;refine aA rfl (Fb (xJ hS b2) ie111.q (Mo f2.blk (f1.blk.next f2.below) (aU hD b2) hk (hF.step b2) hKI hlen)) ?_;rintro y3 w3 ⟨b3,rfl⟩;refine ag ?_;refine aW rfl ⟨b2.step b3,rfl⟩
def FormAt (b:Nat) (W:World) (v:Value) (K:Knd):Prop:=match K with
 | .at o f t=> ∃g1 g2 g3,v= .func (.func 112) #[] [.pointer (some ⟨g1,0,none⟩),.pointer (some ⟨g2,0,none⟩),.pointer (some ⟨g3,0,none⟩)].toArray/\Blk W g1 3 [.int .i64 o]/\Blk W g2 3 [.int .i64 f]/\Blk W g3 3 [.int .i64 t]/\b<=g1/\b<=g2/\b<=g3
 | .on l t=> ∃g1 g2,v= .func (.func 191) #[] [.pointer (some ⟨g1,0,none⟩),.pointer (some ⟨g2,0,none⟩)].toArray/\Blk W g1 113 (Cv l)/\Blk W g2 3 [.int .i64 t]/\b<=g1/\b<=g2
theorem FormAt.ok {b:Nat} {W:World} {v:Value} (h:FormAt b W v K) (hI:K.OK): ∃k caps,v= .func (.func k) #[] caps.toArray/\enters prog k=true/\FormOK W k caps K:=by
 cases K with
 | «at» o f t =>
  obtain ⟨g1,g2,g3,rfl,h1,h2,h3,_⟩:=h
  exact ⟨_,_,rfl,ie112.q,EX h1 h2 h3 hI⟩
 | on l t =>
  obtain ⟨g1,g2,rfl,h1,h2,_⟩:=h;exact ⟨_,_,rfl,ie191.q,Jo h1 h2 hI⟩
theorem FormAt.ext {b n:Nat} {W W':World} {v:Value} {K:Knd} (h:FormAt b W v K) (hx:ExtF n W W'):FormAt b W' v K:=by
 cases K with
 | «at» o f t =>
  obtain ⟨g1,g2,g3,rfl,h1,h2,h3,h4⟩:=h
  exact ⟨g1,g2,g3,rfl,h1.ext hx,h2.ext hx,h3.ext hx,h4⟩
 | on l t =>
  obtain ⟨g1,g2,rfl,h1,h2,h4⟩:=h;exact ⟨g1,g2,rfl,h1.ext hx,h2.ext hx,h4⟩
theorem B6 {o f:Int}:Gives prog 60 #[.int .i64 o,.int .i64 f,.int .i64 t] w fun u w'=>Below w.heap.size w w'/\FormAt w.heap.size w' u (.at o f t):=by
 refine gv (f:=60) ?_;refine ag ?_;refine aG rfl rfl rfl rfl ?_;rintro g1 w1 f1;refine aG rfl rfl rfl rfl ?_;rintro g2 w2 f2;refine aG rfl rfl rfl rfl ?_;rintro g3 w3 f3;refine ag ?_;refine aN rfl rfl (aa rfl ct (aa rfl ct (aa rfl ct ah))) ?_;refine ag ?_;have s1:=f1.at_;have s2:=f2.at_;have s3:=f3.at_;have s4:=f1.size;have s5:=f2.size;refine aW rfl ⟨f1.below.step (f2.below.step f3.below),g1,g2,g3,rfl,f1.blk.next (f2.below.step f3.below),f2.blk.next f3.below,f3.blk,by omega,by omega,by omega⟩
theorem Lb {l:Li}:Gives prog 116 #[.agg (Cv l).toArray,.int .i64 t] w fun u w'=>Below w.heap.size w w'/\FormAt w.heap.size w' u (.on l t):=by
 refine gv (f:=116) ?_;refine ag ?_;refine aG rfl rfl rfl rfl ?_;rintro g1 w1 f1;refine aG rfl rfl rfl rfl ?_;rintro g2 w2 f2;refine ag ?_;refine aN rfl rfl (aa rfl ct (aa rfl ct ah)) ?_;refine ag ?_;have s1:=f1.at_;have s2:=f2.at_;have s4:=f1.size;refine aW rfl ⟨f1.below.step f2.below,g1,g2,rfl,f1.blk.next f2.below,f2.blk,by omega,by omega⟩
theorem Gj {v:NV}:Gives prog 63 #[.agg v.cells.toArray,.int .i64 t] w fun u w'=>Below w.heap.size w w'/\ ∃g1 g2,u= .func (.func 115) #[] [.pointer (some ⟨g1,0,none⟩),.pointer (some ⟨g2,0,none⟩)].toArray/\Blk w' g1 29 v.cells/\Blk w' g2 3 [.int .i64 t]/\w.heap.size<=g1/\w.heap.size<=g2:=by
 refine gv (f:=63) ?_;refine ag ?_;refine aG rfl rfl rfl rfl ?_;rintro g1 w1 f1;refine aG rfl rfl rfl rfl ?_;rintro g2 w2 f2;refine ag ?_;refine aN rfl rfl (aa rfl ct (aa rfl ct ah)) ?_;refine ag ?_;have s1:=f1.at_;have s2:=f2.at_;have s4:=f1.size;refine aW rfl ⟨f1.below.step f2.below,g1,g2,rfl,f1.blk.next f2.below,f2.blk,by omega,by omega⟩
end Go.Proofs.YtobaafdejnimkaaGreatDoor
namespace Go.PF
open Go.RowKit
section
variable {P:Program} {r:Option Nat} {Q:Exit->Act->World->Prop} {N:Nat} {ds:List Deferred} {ops rest:List Oper} {E:Env} {D:DE} {w:World} {G:Option Bool} {Fin:DE->Prop} {md:Mode}
variable {d:Option Tmp} {ty:TypeId} {pos:String} {af:Array Edge} {gu:Option (Nat×Bool)}
variable {x y z:Operand} {cx cy cz:Option Bool} {ρ:Operand->Value}
theorem pE {t e:TypeId} {n:Nat} (hu:P.underlying t=some (.array n e)) {cs:List Value} (hs:(P.info? t).map (·.size)=some cs.length) {ad:Addr} (hc: ∀j v,cs[j]?=some v->w.cell? (ad.add j)=some v) :
  (loadVar t ad).run P w= .ok (.agg cs.toArray) w:=by
 simp [loadVar,isAgg,run_underlying hu,run_sizeOf hs,run_loadCells_list w ad cs hc]
theorem CS {t e:TypeId} {ad:Addr} {n:Nat} {cs:List Value} (hu:P.underlying t=some (.array n e)) (hs:(P.info? t).map (·.size)=some cs.length) (hx:ρ x= .pointer (some ad)) (hc: ∀j v,cs[j]?=some v->w.cell? (ad.add j)=some v) :
  (execOp ρ ⟨d,.load t x,ty,pos,af,gu⟩).run P w= .ok (.value (.agg cs.toArray)) w:=by
 simp only [execOp]; rw [hx]; simp [Instr.loadAt,Instr.sureAddr,pE hu hs hc]
theorem kE {t e:TypeId} {ad:Addr} {m n:Nat} (cs:List Value) (hg:gd ops E gu=some G) (hd:be N d=true) (hu:P.underlying t=some (.array m e)) (hs:(P.info? t).map (·.size)=some n)
  (hx:ev E x=some (cx,.pointer (some ad))) (ix:aV G->aV cx) (hc:aV G-> ∀j v,cs[j]?=some v->w.cell? (ad.add j)=some v) (hl:cs.length=n)
  (next:TW P r Q N ds ops rest (ins E d G (.agg cs.toArray)) w):TW P r Q N ds ops (⟨d,.load t x,ty,pos,af,gu⟩::rest) E w :=
 iP hg hd rfl (fun hG _ ha=>CS hu (hl ▸ hs) (ha.eval hx (ix hG)) (hc hG)) next
theorem NQ {t e:TypeId} {ad:Addr} {m n:Nat} (cs:List Value) (hg:iY ops D gu=some G) (hd:be N d=true) (hu:P.underlying t=some (.array m e)) (hs:(P.info? t).map (·.size)=some n)
  (hx:dev D x=some (cx,.ex (.pointer (some ad)))) (ix:aV G->aV cx) (hc:aV G-> ∀j v,cs[j]?=some v->w.cell? (ad.add j)=some v) (hl:cs.length=n)
  (next:DW P N ds md ops w Fin rest (dM D d G (.ex (.agg cs.toArray)))):DW P N ds md ops w Fin (⟨d,.load t x,ty,pos,af,gu⟩::rest) D :=
 mi hg hd rfl (fun hG _ _ hb ha=>CS hu (hl ▸ hs) (ha.eval (o:=⟨d,.load t x,ty,pos,af,gu⟩) hx (by simp [Op.operands]) (ix hG)) (fun j v hj=>(hb.cell (block_lt_of_cell (hc hG j v hj))).trans (hc hG j v hj))) next
theorem D7 {e:TypeId} (h1:one P e=true):(isAgg e).run P w= .ok false w:=by
 unfold one at h1
 cases hu':P.underlying e with
 | none=>simp [hu'] at h1
 | some dsc=>cases dsc<;>first|(simp [hu'] at h1; done)|simp [isAgg,run_underlying hu']
theorem Ir {t e:TypeId} {l:Nat} {k:IntKind} {i:Int} {cs:List Value} {v:Value} (ht:P.underlying t=some (.array l e)) (h1:one P e=true) (hs:(P.info? e).map (·.size)=some 1) (hx:ρ x= .agg cs.toArray) (hy:ρ y= .int k i) (hi:0<=i/\i<(l:Int)) (hv:cs[i.toNat]?=some v) :
  (execOp ρ ⟨d,.index t x y,ty,pos,af,gu⟩).run P w= .ok (.value v) w:=by
 simp only [execOp]; rw [hx,hy];simp [Instr.index,run_underlying ht,asIntOf,hi,run_sizeOf hs,part,D7 h1,hv]
theorem jP {t e:TypeId} {l:Nat} {k:IntKind} {i:Int} {cs:List Value} {v:Value} (hg:gd ops E gu=some G) (hd:be N d=true) (ht:P.underlying t=some (.array l e)) (h1:one P e=true) (hs:(P.info? e).map (·.size)=some 1)
  (hx:ev E x=some (cx,.agg cs.toArray)) (ix:aV G->aV cx) (hy:ev E y=some (cy,.int k i)) (iy:aV G->aV cy) (hi:aV G->0<=i/\i<(l:Int)) (hv:aV G->cs[i.toNat]?=some v)
  (next:TW P r Q N ds ops rest (ins E d G v) w):TW P r Q N ds ops (⟨d,.index t x y,ty,pos,af,gu⟩::rest) E w :=
 iP hg hd rfl (fun hG _ ha=>Ir ht h1 hs (ha.eval hx (ix hG)) (ha.eval hy (iy hG)) (hi hG) (hv hG)) next
variable {fn:Func} {R:Value->World->Prop}
theorem Nf {s:Nat} {t e t1:TypeId} {m g n:Nat} {cs:List Value} (hres:fn.results= #[.cell s t]) (hu:P.underlying t=some (.array m e)) (hs:(P.info? t).map (·.size)=some n) (hn:cs.length=n) (hl:look E s=some (none,.pointer (some ⟨g,0,none⟩))) (hB:Blk w g t1 cs) (hR:R (.agg cs.toArray) w) :
  KW N [] (bodyPost P fn (fun e w'=> ∃v,e= .returned v/\R v w') .ret) E w:=fun a ha=>by
 refine bodyPost_ret (v:= .agg cs.toArray) ?_ ha.defers ⟨_,rfl,hR⟩;have e:a.tmps.getD s undef= .pointer (some ⟨g,0,none⟩):=(ha.slots s none _ hl).1 trivial;simp only [Array.getD_eq_getD_getElem?] at e;subst hn;simp [results,hres,e,asAddr,pE hu hs (fun j v hj=>hB.fld hj)]
end
end Go.PF
namespace Go.Proofs.YtobaafdejnimkaaGreatDoor
open Tryz
open Go.PF Go.RowKit Go.Ord
attribute [local irreducible] TW CW KW DW
variable {w:World} {i:Int} {A:Option Addr} {n c:Nat}
structure Tabs (w:World):Prop where
 key: ∀(i:Nat) (s:ByteArray),keys11[i]?=some s->w.cell? ⟨0,i,none⟩=some (.string s)
theorem Tabs.below {w':World} (h:Tabs w) (hb:Below w.heap.size w w'):Tabs w':=⟨fun i s hs=>(hb.cell (block_lt_of_cell (h.key i s hs))).trans (h.key i s hs)⟩
theorem KC (a b:ByteArray):(a.toList==b.toList)=true↔a=b:=by
 rw [beq_iff_eq];constructor
 ·intro h;rw [ByteArray.toList_eq,ByteArray.toList_eq] at h;exact ByteArray.ext (Array.ext' h)
 ·rintro rfl; rfl
theorem uu (a b:ByteArray):(a.toList==b.toList)=decide (a=b):=by
 by_cases h:a=b
 ·rw [(KC a b).2 h,decide_eq_true h]
 ·rw [decide_eq_false h]
  cases h':(a.toList==b.toList) with
  | true=>exact absurd ((KC a b).1 h') h
  | false=>rfl
theorem vH {b:Nat}:Gives prog 238 #[.int .u8 (b:Int)] w (ZJ w (.bool (dec (ol b)))):=by
 refine gv (f:=238) ?_;refine ag ?_;refine aW rfl ⟨ZA,?_⟩;by_cases h:ol b
 ·rw [ay h];unfold ol at h;simp;omega
 ·rw [az h];unfold ol at h;simp;omega
theorem vI {b:Nat}:Gives prog 239 #[.int .u8 (b:Int)] w (ZJ w (.bool (dec (jD b)))):=by
 refine gv (f:=239) ?_;refine ag ?_;refine aW rfl ⟨ZA,?_⟩;by_cases h:jD b
 ·rw [ay h];unfold jD at h;simp;omega
 ·rw [az h];unfold jD at h;simp;omega
theorem lD {v a b:Int}:Gives prog 205 #[.int .i64 v,.int .i64 a,.int .i64 b] w (ZJ w (.bool (decide (a<=v/\v<=b)))):=by
 refine gv (f:=205) ?_;refine ag ?_;refine aW rfl ⟨ZA,?_⟩;by_cases h1:a<=v<;>by_cases h2:v<=b<;>simp [h1,h2]
theorem oO {v:Int}:Gives prog 134 #[.int .i64 v] w (ZJ w (.bool (decide (0<=v/\v<=1439)))):=by
 refine gv (f:=134) ?_;refine ag ?_;refine aA rfl (lD) ?_;rintro y1 w1 ⟨hb1,rfl⟩;refine ag ?_;refine aW rfl ⟨hb1,rfl⟩
theorem Ba:Gives prog 202 #[.int .i64 i,.slice A n c] w (ZJ w (.bool (decide (0<=i/\i<(n:Int))))):=by
 refine gv (f:=202) ?_;refine ag ?_;refine aW rfl ⟨ZA,?_⟩;by_cases h1:0<=i<;>by_cases h2:i<(n:Int)<;>simp [h1,h2]
theorem Bd:Gives prog 203 #[.int .i64 i,.slice A n c] w (ZJ w (.bool (decide (0<=i/\i<(n:Int))))):=by
 refine gv (f:=203) ?_;refine ag ?_;refine aW rfl ⟨ZA,?_⟩;by_cases h1:0<=i<;>by_cases h2:i<(n:Int)<;>simp [h1,h2]
theorem oP:Gives prog 65 #[.int .i64 i,.slice A n c] w (ZJ w (.bool (decide (0<=i/\i<(n:Int))))):=by
 refine gv (f:=65) ?_;refine ag ?_;refine aW rfl ⟨ZA,?_⟩;by_cases h1:0<=i<;>by_cases h2:i<(n:Int)<;>simp [h1,h2]
theorem G7 {s:ByteArray}:Gives prog 204 #[.string s] w (ZJ w (.bool (dec (CodeOK s)))):=by
 refine gv (f:=204) ?_;refine ag ?_;refine aI [0,2,12] rfl ?_;refine au rfl (fun hbad=> ?_) (fun hgood=> ?_)
 ·refine ag ?_;refine aW rfl ⟨ZA,?_⟩;rw [az fun h=> ?_];have:=h.n1;have:=h.n2;simp at hbad;omega
 have hsz:1<=s.size/\s.size<=8:=by simp at hgood; omega
 refine fQ (aD (cO (cO (bE ?_))));refine aT aX rfl ⟨ct,trivial⟩ (fun _=>trivial) ?_;refine uD rfl rfl underlying9 underlying281 underlying5 rfl ?_;rintro g c w1 hs1 hg1 hb1 hcell;refine ag ?_;refine aJ [14,15] (fun k:Nat=> [(16,none,.int .i64 (k:Int))])
  (fun k W=>k<=s.size/\Below w1.heap.size w1 W/\ ∀i,i<k->(65<=dN s i/\dN s i<=90)∨jD (dN s i)) (fun k=>s.size-k) 0 ⟨ZB,ZA,fun i hi=>by omega⟩ ?_
 rintro k W ⟨hk,hB,hok⟩;refine ag ?_;refine ai rfl (fun hlt=> ?_) (fun hge=> ?_)
 ·have hks:k<s.size:=by omega
  have hc:W.cell? (Addr.add ⟨g,0,none⟩ ((k:Int).toNat*1))=some (.int .u8 ((dN s k:Nat):Int)):=by
   have h1:=hcell k hks;rw [show (k:Int).toNat*1=k by omega,ja];exact (hB.cell (block_lt_of_cell h1)).trans h1
  refine ag ?_;refine aj rfl hc ?_;refine ag ?_;refine aA rfl (vI) ?_;rintro y2 w2 ⟨hb2,rfl⟩;refine ag ?_;refine aI [4,14,15,16,30] rfl ?_;refine au rfl (fun hbad=> ?_) (fun hgood2=> ?_)
  ·refine ag ?_;refine aW rfl ⟨(hb1.step hB).step hb2,?_⟩;rw [az fun h=> ?_];have:=h.all k hks;by_cases hd:jD (dN s k)
   ·rw [ay hd] at hbad;simp at hbad
   ·rw [az hd] at hbad;rcases this with h|h
    ·simp at hbad;omega
    ·exact hd h
  ·refine ag ?_;refine aC (k+1) ⟨by omega,hB.step hb2,fun i hi=> ?_⟩;rcases ZI i k with h|h
   ·exact hok i h
   ·have:i=k:=by omega
    subst this;by_cases hd:jD (dN s i)
    ·exact .inr hd
    ·rw [az hd] at hgood2;simp at hgood2;omega
 ·have hke:k=s.size:=by omega
  subst hke;refine ag ?_;refine aW rfl ⟨hb1.step hB,by rw [ay ⟨hsz.1,hsz.2,hok⟩]⟩
theorem mW {s:ByteArray} (ht:Tabs w):Gives prog 193 #[.string s] w (ZJ w (.bool (dec (NameOK keys11 s)))):=by
 refine gv (f:=193) ?_;refine ag ?_;refine aO (cap:= []) rfl rfl ie238.q rfl ct (aa rfl id ah) (fun _=>vH (b:=dN s 0)) ?_;rintro w1 c1;refine ag ?_;refine aI [0,2,20] rfl ?_;refine au rfl (fun hbad=> ?_) (fun hgood=> ?_)
 ·refine ag ?_;refine aW rfl ⟨c1,?_⟩;rw [az fun h=> ?_];have h1:=h.n1;have h2:=h.n2;rw [ay h.fst] at hbad;simp at hbad;omega
 have hsz:(1<=s.size/\s.size<=16)/\ol (dN s 0):=by
  simp only [Bool.or_eq_false_iff,decide_eq_false_iff_not,Bool.not_eq_false'] at hgood;exact ⟨by omega,dec_iff.1 hgood.2⟩
 refine fQ (aD (cO (cO (bE ?_))));refine aT aX rfl ⟨ct,trivial⟩ (fun _=>trivial) ?_;refine uD rfl rfl underlying9 underlying281 underlying5 rfl ?_;rintro g c w2 hs2 hg2 hb2 hcell;refine ag ?_;refine aJ [0,22,23] (fun k:Nat=> [(24,none,.int .i64 (k:Int))])
  (fun k W=>k<=s.size/\Below w2.heap.size w2 W/\ ∀i,i<k->ol (dN s i)∨jD (dN s i)∨dN s i=95) (fun k=>s.size-k) 0 ⟨ZB,ZA,fun i hi=>by omega⟩ ?_
 rintro k W ⟨hk,hB,hok⟩;refine ag ?_;refine ai rfl (fun hlt=> ?_) (fun hge=> ?_)
 ·have hks:k<s.size:=by omega
  have hc:W.cell? (Addr.add ⟨g,0,none⟩ ((k:Int).toNat*1))=some (.int .u8 ((dN s k:Nat):Int)):=by
   have h1:=hcell k hks;rw [show (k:Int).toNat*1=k by omega,ja];exact (hB.cell (block_lt_of_cell h1)).trans h1
  refine ag ?_;refine aj rfl hc ?_;refine ag ?_;refine aA rfl (vH) ?_;rintro y3 w3 ⟨c3,rfl⟩;refine ag ?_;refine aO (cap:= []) rfl rfl ie239.q rfl ct (aa rfl id ah) (fun _=>vI) ?_;rintro w4 c4;refine ag ?_;refine aI [0,4,22,23,24,39] rfl ?_;have hB4:=(hB.step c3).step c4;refine au rfl (fun hbad2=> ?_) (fun hgood2=> ?_)
  ·refine ag ?_;refine aW rfl ⟨(c1.step hb2).step hB4,?_⟩;rw [az fun h=> ?_];rcases h.all k hks with h|h|h
   ·rw [ay h] at hbad2;simp at hbad2
   ·rw [ay h] at hbad2;simp at hbad2
   ·simp [h] at hbad2
  ·refine ag ?_;refine aC (k+1) ⟨by omega,hB4,fun i hi=> ?_⟩;rcases ZI i k with h|h
   ·exact hok i h
   ·have:i=k:=by omega
    subst this;by_cases h1:ol (dN s i)
    ·exact .inl h1
    ·by_cases h2:jD (dN s i)
     ·exact .inr (.inl h2)
     ·rw [az h1,az h2] at hgood2;simp at hgood2;exact .inr (.inr (by omega))
 have hke:k=s.size:=by omega
 subst hke;have hbW:=(c1.step hb2).step hB;have htW:=ht.below hbW;have hkl:keys11.length=17:=rfl;have hkey: ∀(j:Nat) (v:Value),(keys11.map Value.string)[j]?=some v->W.cell? (Addr.add ⟨0,0,none⟩ j)=some v:=fun j v hj=>by
  rw [List.getElem?_map] at hj;obtain ⟨z,hz,rfl⟩:=Option.map_eq_some_iff.1 hj;rw [ja];exact htW.key j z hz
 refine ag ?_;refine kE _ rfl rfl underlying282 is282.q rfl ct (fun _=>hkey) rfl ?_;refine ag ?_;refine aJ [0,41] (fun k:Nat=> [(42,none,.int .i64 (k:Int))])
  (fun k W'=>k<=17/\W'=W/\ ∀i x,i<k->keys11[i]?=some x->s≠x) (fun k=>17-k) 0 ⟨ZB,rfl,fun i x hi=>by omega⟩ ?_
 rintro k W ⟨hk,rfl,hno⟩;refine ag ?_;refine ai rfl (fun hlt=> ?_) (fun hge=> ?_)
 ·obtain ⟨x,hx,hxm⟩:=bD (l:=keys11) (k:=k) (by omega);have hxv:(keys11.map Value.string)[(k:Int).toNat]?=some (.string x):=by rw [show (k:Int).toNat=k by omega,List.getElem?_map,hx]; rfl
  refine fQ (aD (cO (fU (cO (bE ?_)))));refine jP rfl rfl underlying282 io9.q is9.q rfl ct rfl ct (fun _=>by (try dsimp only); omega) (fun _=>hxv) ?_;refine ag ?_;refine aI [0,6,41,42,47] rfl ?_;rw [uu];refine au rfl (fun heq=> ?_) (fun hne=> ?_)
  ·refine ag ?_;refine aW rfl ⟨hbW,?_⟩;rw [az fun h=> ?_];exact h.nokey (of_decide_eq_true heq ▸ hxm)
  ·refine ag ?_;refine aC (k+1) ⟨by omega,rfl,fun i z hi hz=> ?_⟩;rcases ZI i k with h|h
   ·exact hno i z h hz
   ·have:i=k:=by omega
    subst this;rw [hx] at hz;cases hz;exact of_decide_eq_false hne
 ·refine ag ?_;have hnk:s ∉ keys11:=fun h=>by
   obtain ⟨i,hi⟩:=List.mem_iff_getElem?.1 h;exact hno i s (by have:=(ZE hi).1; omega) hi rfl
  refine aW rfl ⟨hbW,by rw [ay ⟨hsz.1.1,hsz.1.2,hsz.2,hok,hnk⟩]⟩
end Go.Proofs.YtobaafdejnimkaaGreatDoor
