/- Texts of this claim,joined. -/
import Derived.Test.YtobaafdejnimkaaGreatDoorQC
import Derived.Maps.RangeRun
set_option linter.unusedSimpArgs false
set_option linter.unusedVariables false
set_option maxRecDepth 100000
set_option maxHeartbeats 4000000
namespace Go.Proofs.YtobaafdejnimkaaGreatDoor
open Tryz
open Go.PF Go.RowKit Go.Ord
attribute [local irreducible] TW CW KW DW
variable {w:World} {m n cap b:Nat} {v:Value} {F:Nat->Prop} {A:Option Addr} {S:List Int} {vs:List Value} {d:bA} {l:List Ev}
theorem Cz {x:Int}:Gives prog 224 #[.int .i64 x] w fun y w'=>Below w.heap.size w w'/\y= .bool false:=by
 refine gv (f:=224) ?_;refine ag ?_;refine aW rfl ⟨ZA,by simp⟩
def Ep (a b:Int):Int:=if a<b then -1 else if a>b then 1 else 0
theorem El {a b:Int}:Gives prog 159 #[.int .i64 a,.int .i64 b] w fun y w'=>Below w.heap.size w w'/\y= .int .i64 (Ep a b):=by
 refine gv (f:=159) ?_;refine ag ?_;refine aA rfl (Cz) ?_;rintro y1 w1 ⟨hb1,rfl⟩;refine ag ?_;refine aA rfl (Cz) ?_;rintro y2 w2 ⟨hb2,rfl⟩;refine ag ?_;refine au rfl (fun h1=> ?_) (fun h2=> ?_)
 ·cases h1
 refine ag ?_;refine au rfl (fun h3=> ?_) (fun h4=> ?_)
 ·cases h3
 refine ag ?_;refine ai rfl (fun h5=> ?_) (fun h6=> ?_)
 ·refine ag ?_;refine aW rfl ⟨hb1.step hb2,by unfold Ep; rw [if_pos h5]⟩
 refine ag ?_;refine ai rfl (fun h7=> ?_) (fun h8=> ?_)
 ·refine ag ?_;refine aW rfl ⟨hb1.step hb2,by unfold Ep; rw [if_neg h6,if_pos h7]⟩
 refine ag ?_;refine aW rfl ⟨hb1.step hb2,by unfold Ep; rw [if_neg h6,if_neg h8]⟩
theorem K7 {a b:Value} {u v:U} (ha:UV m a u) (hb:UV m b v):Gives prog 158 #[a,b] w fun y w'=>Below w.heap.size w w'/\y= .int .i64 (Ep u.high v.high):=by
 obtain ⟨t,x,kw,ke,ks,kr,rfl,mw,me,ms,mr,cw,ce,cs,cr⟩:=ha;obtain ⟨t',x',kw',ke',ks',kr',rfl,mw',me',ms',mr',cw',ce',cs',cr'⟩:=hb;refine gv (f:=158) ?_;refine ag ?_;refine dG rfl rfl (mw) rfl ah (cw _) ?_;rintro y1 w1 ⟨hb1,rfl⟩;refine ag ?_;refine dG rfl rfl (mw') rfl ah (cw' _) ?_;rintro y2 w2 ⟨hb2,rfl⟩;refine ag ?_;refine aA rfl (El) ?_;rintro y3 w3 ⟨hb3,rfl⟩;refine ag ?_;refine aW rfl ⟨(hb1.step hb2).step hb3,rfl⟩
theorem UV.one {u:U} (h:UV m v u):v.oneCell'=true:=by
 obtain ⟨t,x,kw,ke,ks,kr,rfl,_⟩:=h;rfl
def NH (m:Nat) (vs:List Value):Prop:= ∀v∈vs,∃u,UV m v u
theorem yM (hO:OwnS w 159 1 (.slice A n cap) n vs) (hn:n<=16) (hU:NH m vs) :
  Gives prog 246 #[.slice A n cap,.int .i64 0,.int .i64 (n:Int),.func (.func 158) #[] #[]] w fun _ w'=>w.grownBy w' (Value.slice A n cap).ownBlock/\ ∃vs',vs'.Perm vs/\OwnS w' 159 1 (.slice A n cap) n vs':=by
 have hl:vs.length=n:=by simpa using hO.1
 refine gv (f:=246) ?_;refine ag ?_;refine aJ [0,1,2,3] (fun x:Nat×List Value=> [(8,none,.int .i64 (x.1:Int))])
  (fun x W=>1<=x.1/\x.1<=n+1/\w.grownBy W (Value.slice A n cap).ownBlock/\x.2.Perm vs/\OwnS W 159 1 (.slice A n cap) n x.2) (fun x=>n+1-x.1) (1,vs) ⟨ZC,by show 1<=n+1; omega,⟨rfl,rfl,rfl,ZC,fun _ _ _=>rfl⟩,List.Perm.refl _,hO⟩ ?_
 rintro ⟨i,vs1⟩ W ⟨hi1,hin,hgr,hp,hO1⟩;dsimp only at hi1 hin hgr hp hO1;refine ag ?_;refine ai rfl (fun hlt=> ?_) (fun hge=> ?_)
 ·have hin':i<n:=by omega
  obtain ⟨g,rfl⟩:=hO1.addr (by rw [hp.length_eq,hl]; omega);refine ag ?_;refine aJ [0,1,2,3,8] (fun x:Nat×List Value=> [(9,none,.int .i64 (x.1:Int))])
   (fun x W=>x.1<=i/\w.grownBy W (some g)/\x.2.Perm vs/\OwnS W 159 1 (.slice (some ⟨g,0,none⟩) n cap) n x.2) (fun x=>x.1) (i,vs1) ⟨ZC,hgr,hp,hO1⟩ ?_
  rintro ⟨j,vs2⟩ W2 ⟨hji,hgr2,hp2,hO2⟩;dsimp only at hji hgr2 hp2 hO2;have hl2:vs2.length=n:=by rw [hp2.length_eq,hl]
  refine ag ?_;refine bg mixed (by kernel_rfl) ?_;refine aZ ?_;by_cases hj:j=0
  ·skip
   refine cZ (.bool false) rfl (by simp [aV]; omega) rfl rfl ?_;refine cZ (.bool false) rfl (by simp [aV]; omega) rfl rfl ?_;refine cZ (.bool false) rfl (by simp [aV]; omega) rfl rfl ?_;refine cZ (.bool false) rfl (by simp [aV]; omega) rfl rfl ?_;refine cZ (.bool false) rfl (by simp [aV]; omega) rfl rfl ?_;refine cZ (.bool false) rfl (by simp [aV]; omega) rfl rfl ?_;refine cZ (.bool false) rfl (by simp [aV]; omega) rfl rfl ?_;refine cZ (.bool false) rfl (by simp [aV]; omega) rfl rfl ?_;refine aZ ?_;refine bR [0,1,2,3,8,9,34] rfl fun w3 hb3=> ?_;refine aD ?_;refine au rfl (fun hyes=> ?_) (fun hno=> ?_)
   ·exfalso;simp [hj] at hyes
   refine ag ?_;refine aC (i+1,vs2) ⟨by show 1<=i+1; omega,by show i+1<=n+1; omega,gG hgr2 (But.of_below hb3),hp2,hO2.below hb3⟩
  ·obtain ⟨v1,hv1⟩: ∃v,vs2[j]?=some v:=⟨vs2[j]'(by omega),ZD (by omega)⟩;obtain ⟨v2,hv2⟩: ∃v,vs2[j-1]?=some v:=⟨vs2[j-1]'(by omega),ZD (by omega)⟩;obtain ⟨u1,hu1⟩:=hU v1 (hp2.mem_iff.1 (ZF hv1));obtain ⟨u2,hu2⟩:=hU v2 (hp2.mem_iff.1 (ZF hv2));have hc1:W2.cell? (Addr.add ⟨g,0,none⟩ ((j:Int).toNat*1))=some v1:=hO2.cell1 (by simpa using hv1);have hc2:W2.cell? (Addr.add ⟨g,0,none⟩ (((j:Int)-1).toNat*1))=some v2:=hO2.cell1 (by rw [Nat.mul_one,show ((j:Int)-1).toNat=j-1 by omega]; exact hv2);refine aB rfl hc1 ?_;refine aZ ?_;refine aB rfl hc2 ?_;refine dw (.ex (.int .i64 (Ep u1.high u2.high))) trivial rfl rfl ie158.q rfl id (ax rfl id (ax rfl id aP)) (fun _ w' _=>K7 hu1 hu2) ?_;refine aZ ?_;refine bR [0,1,2,3,8,9,34] rfl fun w3 hb3=> ?_;refine aD ?_;refine au rfl (fun hyes=> ?_) (fun hno=> ?_)
   ·have hO3:=hO2.below hb3;have hc1':=(hb3.cell (block_lt_of_cell hc1)).trans hc1;have hc2':=(hb3.cell (block_lt_of_cell hc2)).trans hc2;refine ag ?_;refine dE mixed fun W4 hb4=> ?_;refine gV (by kernel_rfl) (by kernel_rfl) (fun _ _ d _ _ h=>by cases d<;>exact h) rfl rfl rfl (fun _ h=>by cases h) (fun a w ha=>ny (ha.eval rfl trivial)) ?_;refine gV (by kernel_rfl) (by kernel_rfl) (fun _ _ d _ _ h=>by cases d<;>exact h) rfl rfl rfl (fun _ h=>by cases h) (fun a w ha=>ny (ha.eval rfl trivial)) ?_;refine gV (by kernel_rfl) (by kernel_rfl) (fun _ _ d _ _ h=>by cases d<;>exact h) rfl rfl rfl (fun _ h=>by cases h) (fun a w ha=>ny (ha.eval rfl trivial)) ?_;refine gV (by kernel_rfl) (by kernel_rfl) (fun _ _ d _ _ h=>by cases d<;>exact h) rfl rfl rfl (fun _ h=>by cases h) (fun a w ha=>ny (ha.eval rfl trivial)) ?_;refine gV (by kernel_rfl) (by kernel_rfl) (fun _ _ d _ _ h=>by cases d<;>exact h) rfl rfl rfl (fun _ h=>by cases h) (fun a w ha=>Io (ha.eval rfl trivial) (ha.eval rfl trivial) (by (try dsimp only); omega)) ?_;refine gV (by kernel_rfl) (by kernel_rfl) (fun _ _ d _ _ h=>by cases d<;>exact h) rfl rfl rfl (fun _ h=>by cases h) (fun a w ha=>ny (ha.eval rfl trivial)) ?_
    refine gV (by kernel_rfl) (by kernel_rfl) (fun _ _ d _ _ h=>by cases d<;>exact h) rfl rfl rfl (fun _ h=>by cases h) (fun a w ha=>ny (ha.eval rfl trivial)) ?_;refine gV (by kernel_rfl) (by kernel_rfl) (fun _ _ d _ _ h=>by cases d<;>exact h) rfl rfl rfl (fun _ h=>by cases h) (fun a w ha=>Io (ha.eval rfl trivial) (ha.eval rfl trivial) (by (try dsimp only); omega)) ?_;refine gV (by kernel_rfl) (by kernel_rfl) (fun _ _ d _ _ h=>by cases d<;>exact h) rfl rfl rfl (fun _ h=>by cases h) (fun a w ha=>nz underlying146 is159.q (ha.eval rfl trivial) (ha.eval rfl trivial) (by (try dsimp only); omega)) ?_;refine dL .weak 14 (by kernel_rfl) (by kernel_rfl) rfl rfl hb4 ?_;refine aB rfl (hc2') ?_;refine aZ ?_;refine aB rfl (hc1') ?_;refine dD (iv [0,1,2,3,8,9,37,38,39,41,46,50] [(0,_,_),(1,_,_),(2,_,_),(3,_,_),(8,_,_),(9,_,_),(37,_,_),(38,_,_),(39,_,_),(41,_,_),(46,_,_),(50,_,_)] rfl (fun w5 hb5=>ek ?_));refine bV (by kernel_rfl) (by kernel_rfl) rfl ?_;refine aT dW rfl ⟨ct,ct,trivial⟩ (fun _=>by (try dsimp only); omega) ?_;refine bG (aS [0,1,2,3,8,9,39,41,46,50,51] [(0,_,_),(1,_,_),(2,_,_),(3,_,_),(8,_,_),(9,_,_),(39,_,_),(41,_,_),(46,_,_),(50,_,_),(51,_,_)] rfl (dJ ?_))
    refine bV (by kernel_rfl) (by kernel_rfl) rfl ?_;have hO5:=hO3.below hb5;refine eF rfl is159.q rfl rfl hO5 (by omega) hu2.one ?_;rintro w6 hO6 hbut6 hsz6;refine bG (aS [0,1,2,3,8,9,39,41,50] [(0,_,_),(1,_,_),(2,_,_),(3,_,_),(8,_,_),(9,_,_),(39,_,_),(41,_,_),(50,_,_)] rfl (dJ ?_));refine bV (by kernel_rfl) (by kernel_rfl) rfl ?_;refine aT dW rfl ⟨ct,ct,trivial⟩ (fun _=>by (try dsimp only); omega) ?_;refine bG (aS [0,1,2,3,8,9,50,52] [(0,_,_),(1,_,_),(2,_,_),(3,_,_),(8,_,_),(9,_,_),(50,_,_),(52,_,_)] rfl (dJ ?_));refine bV (by kernel_rfl) (by kernel_rfl) rfl ?_;refine eF rfl is159.q rfl rfl hO6 (by rw [List.length_set]; omega) hu1.one ?_;rintro w7 hO7 hbut7 hsz7;refine bG (aS [0,1,2,3,8,9] [(0,_,_),(1,_,_),(2,_,_),(3,_,_),(8,_,_),(9,_,_)] rfl (dJ ?_));refine ed rfl (aS [0,1,2,3,8,9] [(0,_,_),(1,_,_),(2,_,_),(3,_,_),(8,_,_),(9,_,_)] rfl (bP (aD ?_)));refine ag ?_;refine aC (j-1,(vs2.set ((j:Int).toNat*1) v2).set (((j:Int)-1).toNat*1) v1) ⟨by show j-1<=i; omega,gG (gG (gG (gG hgr2 (But.of_below hb3)) (But.of_below hb5)) hbut6) hbut7,?_,hO7⟩ (hp:=by rw [show (((j-1:Nat):Int))=(j:Int)-1 by omega]; rfl);refine List.Perm.trans ?_ hp2;have e1:(j:Int).toNat*1=j:=by omega
    have e2:((j:Int)-1).toNat*1=j-1:=by omega
    show ((vs2.set ((j:Int).toNat*1) v2).set (((j:Int)-1).toNat*1) v1).Perm vs2;rw [e1,e2];have h1:vs2[j]'(by omega)=v1:=by rw [ZD (by omega)] at hv1; simpa using hv1
    have h2:vs2[j-1]'(by omega)=v2:=by rw [ZD (by omega)] at hv2; simpa using hv2
    rw [<-h1,<-h2];exact List.set_set_perm (by omega) (by omega)
   ·refine ag ?_;refine aC (i+1,vs2) ⟨by show 1<=i+1; omega,by show i+1<=n+1; omega,gG hgr2 (But.of_below hb3),hp2,hO2.below hb3⟩
 ·refine ag ?_;refine ul results246 ⟨hgr,vs1,hp,hO1⟩
theorem E4 (hO:OwnS w 159 1 (.slice A n cap) n vs) (hn:n<=16) (hU:NH m vs) :
  Gives prog 223 #[.slice A n cap,.int .i64 (n:Int),.func (.func 158) #[] #[]] w fun _ w'=>w.grownBy w' (Value.slice A n cap).ownBlock/\ ∃vs',vs'.Perm vs/\OwnS w' 159 1 (.slice A n cap) n vs':=by
 refine gv (f:=223) ?_;refine ag ?_;refine lM (fun _:Unit=> [(0,none,.slice A n cap),(1,none,.int .i64 (n:Int)),(2,none,.func (.func 158) #[] #[]),(6,none,.int .i64 20),(7,none,.int .i64 0),(8,none,.int .i64 20)])
  (fun _ W=>W=w) (fun _=>0) () [0,1,2,6,7,8] rfl rfl ?_
 rintro _ W rfl;refine ag ?_;refine ai rfl (fun hlt=> ?_) (fun hge=> ?_)
 ·exfalso;omega
 refine ag ?_;refine aA rfl (yM hO hn hU) ?_;rintro y1 w1 ⟨hg1,vs1,hp1,hO1⟩;refine ag ?_;refine aI [0,1,2,6,7,8] rfl ?_;refine lM (fun _:Unit=> [(0,none,.slice A n cap),(1,none,.int .i64 (n:Int)),(2,none,.func (.func 158) #[] #[]),(6,none,.int .i64 20)])
  (fun _ W'=>W'=w1) (fun _=>0) () [0,1,2,6] rfl rfl ?_
 rintro _ W' rfl;refine ag ?_;refine ai rfl (fun hlt2=> ?_) (fun hge2=> ?_)
 ·exfalso;omega
 refine ag ?_;refine ul results223 ⟨hg1,vs1,hp1,hO1⟩
theorem pu (hO:OwnS w 159 1 (.slice A n cap) n vs) (hn:n<=16) (hU:NH m vs) :
  Gives prog 157 #[.slice A n cap,.func (.func 158) #[] #[]] w fun _ w'=>w.grownBy w' (Value.slice A n cap).ownBlock/\ ∃vs',vs'.Perm vs/\OwnS w' 159 1 (.slice A n cap) n vs':=by
 refine gv (f:=157) ?_;refine ag ?_;refine aA rfl (E4 hO hn hU) ?_;rintro y1 w1 h1;refine ag ?_;refine ul results157 (h1)
theorem lZ {α β:Type} {f:α->β}: ∀(l:List α) (l':List β),l'.Perm (l.map f)-> ∃m:List α,m.Perm l/\m.map f=l'
 | l,[],h=>by
  have:l= []:=by have:=h.length_eq; simp at this; exact List.eq_nil_of_length_eq_zero this.symm
  subst this
  exact ⟨[],List.Perm.refl _,rfl⟩
 | l,b::l',h=>by
  have hm:b∈l.map f:=h.mem_iff.1 (by simp);rw [List.mem_map] at hm;obtain ⟨x,hx,rfl⟩:=hm;obtain ⟨pre,post,rfl⟩:=List.append_of_mem hx;have h4:l'.Perm ((pre++post).map f):=by
   have q:=(List.perm_middle (a:=x) (l₁:=pre) (l₂:=post)).map f;exact List.Perm.cons_inv (a:=f x) (by simpa using h.trans q)
  obtain ⟨m,h5,h6⟩:=lZ (pre++post) l' h4;exact ⟨x::m,(h5.cons x).trans List.perm_middle.symm,by simp [h6]⟩
def Prs (m:Nat) (ps:List (Value×U)):Prop:= ∀p∈ps,UV m p.1 p.2
theorem Prs.sl {ps:List (Value×U)} (h:Prs m ps) (hO:OwnS w 159 1 (.slice A n cap) n (ps.map (·.1))) (hn:n<=16) (hF: ∀g,(Value.slice A n cap).ownBlock=some g->F g):SL (MH m) F w (.slice A n cap) (ps.map (·.2)):=by
 have hl:ps.length=n:=by simpa using hO.1
 obtain ⟨A',cap',hv,hc,_,hcell⟩:=hO.form;simp only [Value.slice.injEq] at hv;obtain ⟨rfl,_,rfl⟩:=hv;refine ⟨A,cap,by simp [hl],by simp [hl]; exact hc,by simp; omega,fun i u hu=> ?_⟩;have hi:i<ps.length:=by have:=(ZE hu).1; simpa using this
 have hpi:ps[i]?=some ps[i]:=ZD hi;have hu':ps[i].2=u:=by simp [hpi] at hu; exact hu
 obtain ⟨g,hA,hown,hce,_⟩:=hcell i ps[i].1 (by simp [hpi]);refine ⟨⟨g,0,none⟩,[ps[i].1],hA,hF g hown,fun j x hj=> ?_,ps[i].1,rfl,by rw [<-hu']; exact h _ (List.getElem_mem hi)⟩;have hj0:j=0:=by have:=(ZE hj).1; simp at this; exact this
 subst hj0;simp at hj;subst hj;rw [add_add,ja];have:i*(MH m).n+0=i:=by show i*1+0=i; omega
 rw [this];exact hce
theorem Je {dv u:Value} (hd:SD w dv d) (hl:SE w u l) (hok:WfE d l):Gives prog 84 #[dv,u,.slice none 0 0] w fun x w'=>Below w.heap.size w w' /\
  ((x= .tuple #[.slice none 0 0,.bool false]/\ ∃e∈l,bM e<dF e)∨ ∃v us,x= .tuple #[v,.bool true]/\SL (MH l.length) (fun k=>k<w'.heap.size) w' v us/\us.Perm (l.map gZ)/\ ∀e∈l,dF e<=bM e):=by
 obtain ⟨A,cap,rfl,hcap⟩:=hd.form;obtain ⟨B,lcap,rfl,hlcap⟩:=hl.form;have h16:=hok.few;refine gv (f:=84) ?_;refine ag ?_;refine bI rfl rfl (dH rG I6 rfl) rfl rfl (by omega) (by omega) ?_;rintro g1 w1 f1;refine ag ?_;refine lM (fun _:Unit=> [(0,none,.slice A d.length cap),(1,none,.slice B l.length lcap),(8,none,.slice none 0 0),(9,none,.slice (some ⟨g1,0,none⟩) l.length l.length),(22,none,.slice none 0 0),(23,none,.int .i64 ((0:Nat):Int)),(24,none,.int .i64 0)])
  (fun _ W=>W=w1) (fun _=>0) () [0,1,8,9,22,23,24] rfl rfl ?_
 rintro _ W rfl;refine ag ?_;refine ai rfl (fun hlt=> ?_) (fun hge=> ?_)
 ·exfalso;omega
 refine ag ?_;refine aJ [9,78,79] (fun x:Nat×Value×List (Value×U)=> [(8,none,x.2.1),(80,none,.int .i64 (x.1:Int))])
  (fun x W'=>x.1<=l.length/\Below W.heap.size W W'/\OwnS W' 159 1 x.2.1 x.1 (x.2.2.map (·.1))/\(∀g,x.2.1.ownBlock=some g->W.heap.size<=g)/\Prs l.length x.2.2/\x.2.2.map (·.2)=(l.take x.1).map gZ) (fun x=>l.length-x.1) (0,.slice none 0 0,[]) ⟨ZB,ZA,OwnS.nil _ _ _,(fun g h=>by simp [Value.ownBlock] at h),(fun p hp=>by cases hp),by simp⟩ ?_
 rintro ⟨k,uv,ps⟩ W' ⟨hk,hB,hO,hg,hps,hmap⟩;dsimp only at hk hB hO hg hps hmap;refine ag ?_;refine ai rfl (fun hlt1=> ?_) (fun hge1=> ?_)
 ·have hkl:k<l.length:=by omega
  obtain ⟨e,he⟩: ∃e,l[k]?=some e:=⟨l[k],ZD hkl⟩;have hlW:=aY hl (f1.below.step hB);obtain ⟨ad,rfl⟩:=hlW.addr (by omega);obtain ⟨nv,hcells,i1,i2,i3,hneeds⟩:=SE.get hlW he;obtain ⟨C,ncap,rfl,_⟩:=hneeds.form;have heok:=hok.each e (ZF he);refine ag ?_;refine aF rfl (hcells) ?_;refine dC rfl rfl nY ?_;rintro g2 w2 f2;refine ag ?_;refine aQ rfl rfl rfl f2.blk is60.q rfl rfl rfl ?_;rintro w3 hB3 hg3 hsz3;have hbel3:Below W.heap.size W w3:=(hB.step f2.below).grown hg3 (hB.step f2.below).size (fun q hq=>by cases hq; have:=f2.at_; have:=hB.size; omega);have hBk3:w3.cell? (Addr.add ⟨g1,0,none⟩ ((k:Int).toNat*1))=some (.bool false):=(f1.blk.next hbel3).fld (by simp [hkl]);have hO3:OwnS w3 159 1 uv k (ps.map (·.1)):=(hO.below f2.below).kept fun q hq=>hg3.block q ((hO.below f2.below).lt hq) (fun e=>by cases e; have:=hO.lt hq; have:=f2.at_; omega);refine ag ?_;refine aj rfl hBk3 ?_;refine ag ?_;refine aI [8,9,13,14,78,79,80,89] rfl ?_;refine au rfl (fun hin=> ?_) (fun hout=> ?_)
  ·refine ag ?_;refine aF rfl (fun _ _ h=>hB3.fld h) ?_;refine aH [0,1] [.tmp 91,.tmp 92] [.int .i64 (k:Int),.int .i64 e.office,.int .i64 e.low,.int .i64 e.high,.slice C e.needs.length ncap] rfl rfl rfl (aa rfl ct (aa rfl ct ah)) (by kernel_rfl) ?_;refine aT (nC rfl) rfl ⟨ct,trivial⟩ (fun _=>trivial) ?_;refine ak 159 _ rfl rfl rfl H6 (aa rfl ct ah) rfl rfl rfl rfl rfl ?_;rintro g5 w5 f5;have hO5:=hO3.below f5.below;refine aK [.iface 218 (.agg #[.int .i64 (k:Int),.int .i64 e.office,.int .i64 e.low,.int .i64 e.high,.slice C e.needs.length ncap])] rfl rfl Hl rfl hO5 rfl rfl (fun j v hj=>⟨⟨g5,0,none⟩,rfl,f5.blk.fld hj⟩) (fun v hv=>by simp at hv; subst hv; rfl) (by omega) (by omega) ?_;rintro uv' w6 hO6 hg6 hnew6;refine ag ?_;have hbel5:=hbel3.step f5.below;refine aC (k+1,uv',ps++ [(.iface 218 (.agg #[.int .i64 (k:Int),.int .i64 e.office,.int .i64 e.low,.int .i64 e.high,.slice C e.needs.length ncap]),gZ e)]) ⟨by show k+1<=l.length; omega,hbel5.grown hg6 hbel5.size (fun q hq=>hg q hq),by rw [List.map_append]; exact hO6,fun q hq=> ?_,fun p hp=> ?_,?_⟩
   ·rcases hnew6 with h|h
    ·exact hg q (by rw [<-h]; exact hq)
    ·rw [h] at hq; cases hq; exact hbel5.size
   ·rcases ZH hp with h|h
    ·exact hps p h
    ·rw [List.mem_singleton] at h;subst h;exact uW hkl h16 heok.o1
   ·show List.map Prod.snd (ps++ [_])=(l.take (k+1)).map gZ;rw [List.map_append,hmap,ZG,List.map_append,he];rfl
  ·exact absurd hout (by simp)
 ·have hke:k=l.length:=by omega
  subst hke;have hps2:ps.map (·.2)=l.map gZ:=by rw [hmap,List.take_length]
  have hpl:ps.length=l.length:=by have:=congrArg List.length hps2; simpa using this
  obtain ⟨UA,ucap,rfl,hucap,_⟩:=hO.form;refine ag ?_;refine aI [8,9,78,79,80,98,99,100] rfl ?_;refine aJ [8,98,99] (fun x:Nat=> [(100,none,.int .i64 (x:Int))])
   (fun x W2=>x<=l.length/\Below W'.heap.size W' W2/\ ∀(i:Nat) (e:Ev),i<x->l[i]?=some e->dF e<=bM e) (fun x=>l.length-x) 0 ⟨ZB,ZA,fun i e hi=>by omega⟩ ?_
  rintro k W2 ⟨hk2,hB2,hwin⟩;have hO2:=hO.below hB2;refine ag ?_;refine ai rfl (fun hlt2=> ?_) (fun hge2=> ?_)
  ·have hkl:k<l.length:=by omega
   obtain ⟨gu,rfl⟩:=hO2.addr (by simp [hpl]; omega);obtain ⟨p,hp⟩: ∃p,ps[k]?=some p:=⟨ps[k]'(by omega),ZD (by omega)⟩;have hpu:p.2=gZ l[k]:=by
    have:=congrArg (fun q=>q[k]?) hps2;simp [hp,hkl] at this;exact this
   have hc:W2.cell? (Addr.add ⟨gu,0,none⟩ ((k:Int).toNat*1))=some p.1:=hO2.cell1 (by simp [hp]);obtain ⟨t,x,kw,ke,ks,kr,hpx,mw,me,ms,mr,cw,ce,cs,cr⟩:=hps p (ZF hp);rw [hpx] at hc;refine ag ?_;refine aj rfl hc ?_;refine ag ?_;refine dG rfl rfl (mw) rfl ah (cw _) ?_;rintro y3 w3 ⟨hb3,rfl⟩;refine ag ?_;refine aI [8,16,17,18,98,99,100,111] rfl ?_;refine ai rfl (fun hbad=> ?_) (fun hgood=> ?_)
   ·refine ag ?_;refine jH rfl ⟨((f1.below.step hB).step hB2).step hb3,.inl ⟨rfl,l[k],List.getElem_mem hkl,?_⟩⟩;rw [hpu] at hbad;exact hbad
   ·refine ag ?_;refine aC (k+1) ⟨by omega,hB2.step hb3,fun i e hi he=> ?_⟩;rcases ZI i k with h|h
    ·exact hwin i e h he
    ·obtain rfl:i=k:=by omega
     rw [ZD hkl] at he;cases he;rw [hpu] at hgood;have: ¬(dF l[i]>bM l[i]):=hgood;omega
  ·refine ag ?_;have hU:NH l.length (ps.map (·.1)):=fun v hv=>by
    rw [List.mem_map] at hv;obtain ⟨p,hp,rfl⟩:=hv;exact ⟨p.2,hps p hp⟩
   refine aA rfl (pu hO2 h16 hU) ?_;rintro y4 w4 ⟨hg4,vs',hp4,hO4⟩;refine ag ?_;obtain ⟨ps',hp5,rfl⟩:=lZ ps vs' hp4;have hbel:Below w.heap.size w W2:=(f1.below.step hB).step hB2;have hbel4:Below w.heap.size w w4:=hbel.grown hg4 hbel.size (fun q hq=>by have:=hg q hq; have:=f1.below.size; omega);refine jH rfl ⟨hbel4,.inr ⟨_,ps'.map (·.2),rfl,Prs.sl (fun p hp=>hps p (hp5.mem_iff.1 hp)) hO4 h16 (fun q hq=>hO4.lt hq),?_,fun e he=> ?_⟩⟩
   ·rw [<-hps2];exact hp5.map _
   ·obtain ⟨i,hi,he'⟩:=List.getElem_of_mem he;exact hwin i e (by omega) (by rw [ZD hi,he'])
theorem Gy (hd:WfD d) {e:Ev} (h:EOK d e):Num d (gZ e):=by
 refine ⟨qy hd h,?_,?_,(by decide:(0:Int)<=0/\(0:Int)<=1000000)⟩
 ·show 0<=dF e/\dF e<=1000001;unfold dF; omega
 ·show -1<=bM e/\bM e<=1000000;unfold bM; omega
theorem Nums.less {b':Nat} {L:List Nat} (h:Nums w b v L) (hb:b'<=b):Nums w b' v L:=by
 obtain ⟨n,h1,h2,h3⟩:=h;exact ⟨n,h1,h2,fun g hg=>Nat.le_trans hb (h3 g hg)⟩
def kY (d:bA) (l:List Ev):Prop:=WfE d l/\Poss d l
theorem yX {dv ev:Value} (hd:SD w dv d) (hl:SE w ev l):Gives prog 33 #[dv,ev,.slice none 0 0] w fun x w'=>Below w.heap.size w w'/\ ∃v,x= .tuple #[v,.bool (dec (kY d l))]:=by
 obtain ⟨A,cap,rfl,hcap⟩:=hd.form;obtain ⟨B,lcap,rfl,hlcap⟩:=hl.form;refine gv (f:=33) ?_;refine ag ?_;refine aA rfl (Jz hd hl) ?_;rintro y1 w1 ⟨hb1,rfl⟩;refine ag ?_;refine au rfl (fun hbad=> ?_) (fun hgood=> ?_)
 ·refine ag ?_;refine jH rfl ⟨hb1,_,by rw [az (fun h=>Nn hbad h.1)]⟩
 have hok:WfE d l:=Kz hgood;have hwd:=hok.wd;have h16:=hok.few;refine ag ?_;refine aA rfl (Je (aU hd hb1) (aY hl hb1) hok) ?_;rintro y2 w2 ⟨hb2,hsp⟩;rcases hsp with ⟨rfl,e0,he0,hwin0⟩|⟨uv,us,rfl,hus,hperm,hwin⟩
 ·skip
  refine ag ?_;refine aI [0,1,2,6,7,8,9,31] rfl ?_;refine au rfl (fun h1=> ?_) (fun h2=> ?_)
  ·refine ag ?_;refine jH rfl ⟨hb1.step hb2,.slice none 0 0,?_⟩;rw [az];intro h;have:=((pW hwd hok.each (List.Perm.refl _)).1 h.2).1 (gZ e0) (List.mem_map.2 ⟨e0,he0,rfl⟩);have:dF e0<=bM e0:=this;omega
  ·exact absurd h2 (by simp)
 have hlen:us.length=l.length:=by have:=hperm.length_eq; simpa using this
 have hu16:us.length<=16:=by omega
 have hnum: ∀u∈us,Num d u:=fun u hu=>by
  have:=hperm.mem_iff.1 hu;rw [List.mem_map] at this;obtain ⟨e,he,rfl⟩:=this;exact Gy hwd (hok.each e he)
 have huok: ∀u∈us,UOK d u:=fun u hu=>(hnum u hu).ok;have hposs:Poss d l↔Feas d (none,0) us:=by
  rw [pW hwd hok.each hperm];refine ⟨fun h=>h.2,fun h=>⟨fun u hu=> ?_,h⟩⟩;have:=hperm.mem_iff.1 hu;rw [List.mem_map] at this;obtain ⟨e,he,rfl⟩:=this;exact hwin e he
 obtain ⟨UA,ucap,rfl,_⟩:=hus.form;have hB2:=hb1.step hb2;refine ag ?_;refine au rfl (fun h1=> ?_) (fun h2=> ?_)
 ·exact absurd h1 (by simp)
 refine ag ?_;refine aH [0,1] [.tmp 32,.tmp 33] [.slice A d.length cap,.slice UA us.length ucap,.slice none 0 0] rfl rfl rfl (aa rfl ct (aa rfl ct ah)) (by kernel_rfl) ?_;refine aG rfl rfl rfl rfl ?_;rintro g w3 f3;refine ag ?_;have hB3:=hB2.step f3.below;have hgw:w.heap.size<=g:=by have:=f3.at_; have:=hB2.size; omega
 have hS:Srch w3 g l.length d us (.slice A d.length cap) (.slice UA us.length ucap) (.slice none 0 0):=by
  refine ⟨f3.blk,?_,?_⟩
  ·have:=((aU hd hB2).below f3.below);rw [f3.at_]; exact this
  ·have:=hus.below f3.below;rw [f3.at_]; exact this
 refine aA rfl (vw hwd hS hnum hu16) ?_;rintro y4 w4 ⟨hb4,hpre⟩;have hB4:Below w.heap.size w w4:=But.below hB3 hb4 hgw;rcases hpre with ⟨rfl,i,j,u,v,hi,hj,hij,hn1,hn2⟩|⟨rfl,gf,F,hSF,hF,hF2⟩
 ·skip
  refine ag ?_;refine aI [0,1,2,6,7,8,9,10,38] rfl ?_;refine au rfl (fun h1=> ?_) (fun h3=> ?_)
  ·refine ag ?_;refine jH rfl ⟨hB4,.slice none 0 0,?_⟩;rw [az];intro h;rcases vO hwd huok (s:=(none,0)) (fun x hx=>by cases hx) (hposs.1 h.2) hi hj hij with h'|h'
   ·exact hn1 h'
   ·exact hn2 h'
  ·exact absurd h3 (by simp)
 refine ag ?_;refine au rfl (fun h1=> ?_) (fun h3=> ?_)
 ·exact absurd h1 (by simp)
 refine ag ?_;refine aA rfl (Ci hwd hSF hnum hu16) ?_;rintro y5 w5 ⟨hb5,hq⟩;have hB5:=hB4.step hb5;have hS5:=hSF.step hb5;rcases hq with rfl|⟨sv,L,rfl,hL,hLi,hfeas⟩
 ·skip
  refine ag ?_;refine au rfl (fun h4=> ?_) (fun h5=> ?_)
  ·refine ag ?_;refine aA rfl (Hq hwd hS5 hnum hu16 hF hF2) ?_;rintro y6 w6 ⟨hb6,hfu⟩;have hB6:=hB5.step hb6;have hS6:=hS5.step hb6;rcases hfu with ⟨rfl,hno⟩|⟨sv,L,rfl,hL,hLi,hfeas⟩
   ·skip
    refine ag ?_;refine aI [0,1,2,6,7,8,9,10,11,52] rfl ?_;refine au rfl (fun h6=> ?_) (fun h7=> ?_)
    ·refine ag ?_;refine jH rfl ⟨hB6,_,by rw [az (fun h=>hno (hposs.1 h.2))]⟩
    ·exact absurd h7 (by simp)
   ·skip
    refine ag ?_;refine au rfl (fun h6=> ?_) (fun h7=> ?_)
    ·exact absurd h6 (by simp)
    obtain ⟨SA,scap,rfl,_⟩:=hL.form;have hSbig:=hL.big;refine ag ?_;refine bI rfl rfl (dH lF EO rfl) rfl rfl (by omega) (by omega) ?_;rintro g12 w7 f7;refine ag ?_;refine jw [0,1,2,6,7,8,9,10,11,12] rfl ?_;refine aH [1] [.const (.int .i64 (-1))] [.int .u32 ((0:Nat):Int),.int .i64 (-1)] rfl rfl rfl (aa rfl ct ah) (by kernel_rfl) ?_;refine aM rfl mF rfl is156.q rfl rfl ?_;rintro g13 w8 f8;refine ag ?_;have hg12:=f7.at_;have hg13:=f8.at_;have hw7:=f7.size;have hBW8:Below w6.heap.size w6 w8:=f7.below.step f8.below;refine aJ [1,8,10,12,13,57,58] (fun x:Nat×Nat×St=> [(14,none,.int .i64 x.2.2.2),(59,none,.int .i64 (x.1:Int))])
     (fun x W=>x.1<=L.length/\Below w6.heap.size w6 W/\Blk W g13 156 [.int .u32 (x.2.1:Int),.int .i64 (eU x.2.2.1)]/\jG W g12 l.length/\qT d x.2.2/\ -1<=x.2.2.2/\x.2.2.2<=3000000/\x.2.1<2 ^ 32) (fun x=>L.length-x.1) (0,0,(none,0)) ⟨ZB,hBW8,f8.blk,⟨List.replicate l.length 0,by simp,by simpa using f7.blk.next f8.below⟩,(fun x hx=>by cases hx),by decide,by decide,(by decide:0<2 ^ 32)⟩ ?_
    rintro ⟨i,k,s⟩ W ⟨hi,hBW,hBs,hT,hso,ht0,ht1,hk⟩;dsimp only at hi hBW hBs hT hso ht0 ht1 hk;refine ag ?_;refine ai rfl (fun hlt=> ?_) (fun hge=> ?_)
    ·have hil:i<L.length:=by omega
     obtain ⟨y,hy⟩: ∃y,L[i]?=some y:=⟨L[i],ZD hil⟩;obtain ⟨gs,rfl,hcy⟩:=(hL.below hBW).get hy;have hyl:=hLi y (ZF hy);obtain ⟨u,hu⟩: ∃u,us[y]?=some u:=⟨us[y],ZD hyl⟩;have nu:=hnum u (ZF hu);have hSW:=hS6.step hBW;have hbr:=lG (s:=s) nu;have hspn:=nu.span;obtain ⟨ua,rfl⟩:=hSW.s.units.addr (by omega);refine ag ?_;refine aj rfl hcy ?_;refine ag ?_;refine aF rfl (fun _ _ h=>hBs.fld h) ?_;refine ag ?_;refine aA rfl (jK (k:=k) hwd hSW.s hu nu hso ⟨ht0,ht1⟩) ?_;rintro y9 w9 ⟨hb9,rfl⟩;have hT9:jG w9 g12 l.length:=by
      obtain ⟨xs,h1,h2⟩:=hT;exact ⟨xs,h1,h2.next hb9⟩
     have hS9:=hSW.step hb9;have hBs9:=hBs.next hb9;obtain ⟨v1,hc1,hv1⟩:=jS hS9.s.units hu;obtain ⟨tt,x,kw,ke,ks,kr,rfl,mw,me,ms,mr,cw,ce,cs,cr⟩:=hv1;refine ag ?_;refine aj rfl hc1 ?_;refine ag ?_;refine dG rfl rfl (mr) rfl (aa rfl ct (aa rfl ct ah)) (cr _ _ _ (by omega) (by omega) hT9) ?_;rintro y10 w10 ⟨hbut10,hT10⟩;refine ag ?_;refine aI [1,8,10,12,13,14,16,17,57,58,59] rfl ?_;refine jB [4] 11 mixed (by kernel_rfl) (fun _ _ d _ _ h=>by cases d<;>exact h) fun W22 hb22=> ?_;refine dL .weak 10 (by kernel_rfl) (by kernel_rfl) rfl rfl hb22 ?_;refine aZ ?_;have hBW9:=hBW.step hb9;have hBW10:Below w6.heap.size w6 w10:=hBW9.grown hbut10 hBW9.size (fun q hq=>by cases hq; omega);have hS10:=hS6.step hBW10;have hBs10:=But.blk (k:=g13) hbut10 hBs9 (by omega);obtain ⟨v2,hc2,hv2⟩:=jS hS10.s.units hu;obtain ⟨tt2,x2,kw2,ke2,ks2,kr2,rfl,mw2,me2,ms2,mr2,cw2,ce2,cs2,cr2⟩:=hv2;refine dx rfl (fun _ _ h=>hBs10.fld h) ?_;refine aZ ?_;refine fE (.ex (.agg #[.int .u32 ((k ||| 1 <<< y:Nat):Int),.int .i64 (u.exit:Int)])) trivial rfl (fun _ w' hb'=>nU (k:=k) (hS10.step hb').s hu hk (by omega)) ?_;refine aZ ?_;refine aB rfl hc2 ?_
     refine jQ (.ex (.int .i64 u.span)) trivial rfl rfl (ms2) rfl ct aP (fun _ w' _=>cs2 w') ?_;refine dD (iv [1,8,10,12,13,14,16,17,57,58,59,78,79,84] [(1,_,_),(8,_,_),(10,_,_),(12,_,_),(13,_,_),(14,_,_),(16,_,_),(17,_,_),(57,_,_),(58,_,_),(59,_,_),(78,_,_),(79,_,_),(84,_,_)] rfl (fun w11 hb11=>ek ?_));refine gV (by kernel_rfl) (by kernel_rfl) (fun _ _ d _ _ h=>by cases d<;>exact h) rfl rfl rfl (fun _ h=>by cases h) (fun a w ha=>wm (ha.eval rfl trivial) (ha.eval rfl trivial) (by (try dsimp only); omega)) ?_;refine bV (by kernel_rfl) (by kernel_rfl) rfl ?_;have hBs11:=hBs10.next hb11;refine aQ rfl rfl rfl hBs11 is156.q rfl rfl rfl ?_;rintro w12 hBs12 hg12' hsz12;refine bG (aS [1,8,10,12,13,14,16,17,57,58,59,85] [(1,_,_),(8,_,_),(10,_,_),(12,_,_),(13,_,_),(14,_,_),(16,_,_),(17,_,_),(57,_,_),(58,_,_),(59,_,_),(85,_,_)] rfl (dJ ?_));refine bV (by kernel_rfl) (by kernel_rfl) rfl ?_;refine aT df rfl ⟨ct,trivial⟩ (fun _=>trivial) ?_;refine bG (aS [1,8,10,12,13,14,16,17,57,58,59] [(1,_,_),(8,_,_),(10,_,_),(12,_,_),(13,_,_),(14,_,_),(16,_,_),(17,_,_),(57,_,_),(58,_,_),(59,_,_)] rfl (dJ ?_))
     refine ed rfl (aS [1,8,10,12,13,14,16,17,57,58,59] [(1,_,_),(8,_,_),(10,_,_),(12,_,_),(13,_,_),(14,_,_),(16,_,_),(17,_,_),(57,_,_),(58,_,_),(59,_,_)] rfl (bP (aD ?_)));refine ag ?_;have hBW11:=hBW10.step hb11;have hp:(1 <<< y:Nat)<2 ^ 32:=by rw [Nat.one_shiftLeft]; exact Nat.pow_lt_pow_right (by decide) (by omega)
     refine aC (i+1,k ||| 1 <<< y,(some u.exit,eQ d s u+u.span)) ⟨by show i+1<=L.length; omega,hBW11.grown hg12' hBW11.size (fun q hq=>by cases hq; omega),hBs12,?_,?_,by show -1<=eQ d s u+u.span; omega,by show eQ d s u+u.span<=3000000; omega,Nat.or_lt_two_pow hk hp⟩
     ·obtain ⟨xs,h1,h2⟩:=hT10;exact ⟨xs,h1,But.blk (k:=g12) hg12' (h2.next hb11) (by omega)⟩
     ·intro x hx;cases hx;exact nu.ok.e2
    ·refine ag ?_;refine jH rfl ⟨hB6.step hBW,_,by rw [ay ⟨hok,hposs.2 hfeas⟩]⟩
  ·exact absurd h5 (by simp)
 ·skip
  refine ag ?_;refine au rfl (fun h4=> ?_) (fun h5=> ?_)
  ·exact absurd h4 (by simp)
  ·refine ag ?_;refine aI [0,1,2,6,7,8,9,10,11,52] rfl ?_;refine au rfl (fun h6=> ?_) (fun h7=> ?_)
   ·exact absurd h6 (by simp)
   obtain ⟨SA,scap,rfl,_⟩:=hL.form;have hSbig:=hL.big;refine ag ?_;refine bI rfl rfl (dH lF EO rfl) rfl rfl (by omega) (by omega) ?_;rintro g12 w7 f7;refine ag ?_;refine aH [1] [.const (.int .i64 (-1))] [.int .u32 ((0:Nat):Int),.int .i64 (-1)] rfl rfl rfl (aa rfl ct ah) (by kernel_rfl) ?_;refine aM rfl mF rfl is156.q rfl rfl ?_;rintro g13 w8 f8;refine ag ?_;have hg12:=f7.at_;have hg13:=f8.at_;have hw7:=f7.size;have hBW8:Below w5.heap.size w5 w8:=f7.below.step f8.below;refine aJ [1,8,10,12,13,57,58] (fun x:Nat×Nat×St=> [(14,none,.int .i64 x.2.2.2),(59,none,.int .i64 (x.1:Int))])
    (fun x W=>x.1<=L.length/\Below w5.heap.size w5 W/\Blk W g13 156 [.int .u32 (x.2.1:Int),.int .i64 (eU x.2.2.1)]/\jG W g12 l.length/\qT d x.2.2/\ -1<=x.2.2.2/\x.2.2.2<=3000000/\x.2.1<2 ^ 32) (fun x=>L.length-x.1) (0,0,(none,0)) ⟨ZB,hBW8,f8.blk,⟨List.replicate l.length 0,by simp,by simpa using f7.blk.next f8.below⟩,(fun x hx=>by cases hx),by decide,by decide,(by decide:0<2 ^ 32)⟩ ?_
   rintro ⟨i,k,s⟩ W ⟨hi,hBW,hBs,hT,hso,ht0,ht1,hk⟩;dsimp only at hi hBW hBs hT hso ht0 ht1 hk;refine ag ?_;refine ai rfl (fun hlt=> ?_) (fun hge=> ?_)
   ·have hil:i<L.length:=by omega
    obtain ⟨y,hy⟩: ∃y,L[i]?=some y:=⟨L[i],ZD hil⟩;obtain ⟨gs,rfl,hcy⟩:=(hL.below hBW).get hy;have hyl:=hLi y (ZF hy);obtain ⟨u,hu⟩: ∃u,us[y]?=some u:=⟨us[y],ZD hyl⟩;have nu:=hnum u (ZF hu);have hSW:=hS5.step hBW;have hbr:=lG (s:=s) nu;have hspn:=nu.span;obtain ⟨ua,rfl⟩:=hSW.s.units.addr (by omega);refine ag ?_;refine aj rfl hcy ?_;refine ag ?_;refine aF rfl (fun _ _ h=>hBs.fld h) ?_;refine ag ?_;refine aA rfl (jK (k:=k) hwd hSW.s hu nu hso ⟨ht0,ht1⟩) ?_;rintro y9 w9 ⟨hb9,rfl⟩;have hT9:jG w9 g12 l.length:=by
     obtain ⟨xs,h1,h2⟩:=hT;exact ⟨xs,h1,h2.next hb9⟩
    have hS9:=hSW.step hb9;have hBs9:=hBs.next hb9;obtain ⟨v1,hc1,hv1⟩:=jS hS9.s.units hu;obtain ⟨tt,x,kw,ke,ks,kr,rfl,mw,me,ms,mr,cw,ce,cs,cr⟩:=hv1;refine ag ?_;refine aj rfl hc1 ?_;refine ag ?_;refine dG rfl rfl (mr) rfl (aa rfl ct (aa rfl ct ah)) (cr _ _ _ (by omega) (by omega) hT9) ?_;rintro y10 w10 ⟨hbut10,hT10⟩;refine ag ?_;refine aI [1,8,10,12,13,14,16,17,57,58,59] rfl ?_;refine jB [4] 11 mixed (by kernel_rfl) (fun _ _ d _ _ h=>by cases d<;>exact h) fun W22 hb22=> ?_;refine dL .weak 10 (by kernel_rfl) (by kernel_rfl) rfl rfl hb22 ?_;refine aZ ?_;have hBW9:=hBW.step hb9;have hBW10:Below w5.heap.size w5 w10:=hBW9.grown hbut10 hBW9.size (fun q hq=>by cases hq; omega);have hS10:=hS5.step hBW10;have hBs10:=But.blk (k:=g13) hbut10 hBs9 (by omega);obtain ⟨v2,hc2,hv2⟩:=jS hS10.s.units hu;obtain ⟨tt2,x2,kw2,ke2,ks2,kr2,rfl,mw2,me2,ms2,mr2,cw2,ce2,cs2,cr2⟩:=hv2;refine dx rfl (fun _ _ h=>hBs10.fld h) ?_;refine aZ ?_;refine fE (.ex (.agg #[.int .u32 ((k ||| 1 <<< y:Nat):Int),.int .i64 (u.exit:Int)])) trivial rfl (fun _ w' hb'=>nU (k:=k) (hS10.step hb').s hu hk (by omega)) ?_;refine aZ ?_;refine aB rfl hc2 ?_
    refine jQ (.ex (.int .i64 u.span)) trivial rfl rfl (ms2) rfl ct aP (fun _ w' _=>cs2 w') ?_;refine dD (iv [1,8,10,12,13,14,16,17,57,58,59,78,79,84] [(1,_,_),(8,_,_),(10,_,_),(12,_,_),(13,_,_),(14,_,_),(16,_,_),(17,_,_),(57,_,_),(58,_,_),(59,_,_),(78,_,_),(79,_,_),(84,_,_)] rfl (fun w11 hb11=>ek ?_));refine gV (by kernel_rfl) (by kernel_rfl) (fun _ _ d _ _ h=>by cases d<;>exact h) rfl rfl rfl (fun _ h=>by cases h) (fun a w ha=>wm (ha.eval rfl trivial) (ha.eval rfl trivial) (by (try dsimp only); omega)) ?_;refine bV (by kernel_rfl) (by kernel_rfl) rfl ?_;have hBs11:=hBs10.next hb11;refine aQ rfl rfl rfl hBs11 is156.q rfl rfl rfl ?_;rintro w12 hBs12 hg12' hsz12;refine bG (aS [1,8,10,12,13,14,16,17,57,58,59,85] [(1,_,_),(8,_,_),(10,_,_),(12,_,_),(13,_,_),(14,_,_),(16,_,_),(17,_,_),(57,_,_),(58,_,_),(59,_,_),(85,_,_)] rfl (dJ ?_));refine bV (by kernel_rfl) (by kernel_rfl) rfl ?_;refine aT df rfl ⟨ct,trivial⟩ (fun _=>trivial) ?_;refine bG (aS [1,8,10,12,13,14,16,17,57,58,59] [(1,_,_),(8,_,_),(10,_,_),(12,_,_),(13,_,_),(14,_,_),(16,_,_),(17,_,_),(57,_,_),(58,_,_),(59,_,_)] rfl (dJ ?_))
    refine ed rfl (aS [1,8,10,12,13,14,16,17,57,58,59] [(1,_,_),(8,_,_),(10,_,_),(12,_,_),(13,_,_),(14,_,_),(16,_,_),(17,_,_),(57,_,_),(58,_,_),(59,_,_)] rfl (bP (aD ?_)));refine ag ?_;have hBW11:=hBW10.step hb11;have hp:(1 <<< y:Nat)<2 ^ 32:=by rw [Nat.one_shiftLeft]; exact Nat.pow_lt_pow_right (by decide) (by omega)
    refine aC (i+1,k ||| 1 <<< y,(some u.exit,eQ d s u+u.span)) ⟨by show i+1<=L.length; omega,hBW11.grown hg12' hBW11.size (fun q hq=>by cases hq; omega),hBs12,?_,?_,by show -1<=eQ d s u+u.span; omega,by show eQ d s u+u.span<=3000000; omega,Nat.or_lt_two_pow hk hp⟩
    ·obtain ⟨xs,h1,h2⟩:=hT10;exact ⟨xs,h1,But.blk (k:=g12) hg12' (h2.next hb11) (by omega)⟩
    ·intro x hx;cases hx;exact nu.ok.e2
   ·refine ag ?_;refine jH rfl ⟨hB5.step hBW,_,by rw [ay ⟨hok,hposs.2 hfeas⟩]⟩
theorem G9 {l:List Int} {k:FuncId} {caps:List Value} {p:Int->Bool} (hl:SL bC F w v l) (hk:enters prog k=true) (hp:PredI prog w k caps p) :
  Gives prog 144 #[v,.func (.func k) #[] caps.toArray] w fun x w'=>Below w.heap.size w w'/\((x= .int .i64 (-1)/\l.any p=false)∨ ∃i:Nat,x= .int .i64 (i:Int)/\l.any p=true):=by
 obtain ⟨A,cap,rfl,_⟩:=hl.form;have hmax:l.length<=9223372036854775807:=hl.len.2.2;refine gv (f:=144) ?_;refine ag ?_;refine aJ [0,1,7] (fun i:Nat=> [(8,none,.int .i64 (i:Int))])
  (fun i W=>i<=l.length/\Below w.heap.size w W/\(l.take i).any p=false) (fun i=>l.length-i) 0 ⟨ZB,ZA,rfl⟩ ?_
 rintro i W ⟨hi,hB,hno⟩;refine ag ?_;refine ai rfl (fun hlt=> ?_) (fun hge=> ?_)
 ·have hil:i<l.length:=by omega
  obtain ⟨ad,rfl⟩:=hl.addr (by omega);have hlW:=hl.below hB;have hx:l[i]?=some l[i]:=ZD hil;refine ag ?_;refine aj rfl (hlW.getI hx) ?_;refine bK rfl rfl hk rfl (aa rfl ct ah) (hp _ _ hB) ?_;rintro y1 w1 ⟨hb1,rfl⟩;refine ag ?_;refine au rfl (fun hyes=> ?_) (fun hnot=> ?_)
  ·refine ag ?_;refine aW rfl ⟨hB.step hb1,.inr ⟨i,rfl,?_⟩⟩;rw [List.any_eq_true];exact ⟨l[i],List.getElem_mem hil,hyes⟩
  ·refine ag ?_;refine aC (i+1) ⟨by omega,hB.step hb1,?_⟩;rw [ZG,List.any_append,hno,hx];simp [hnot]
 ·refine ag ?_;refine aW rfl ⟨hB,.inl ⟨rfl,?_⟩⟩;rw [show i=l.length by omega,List.take_length] at hno;exact hno
theorem mY {l:List Int} {k:FuncId} {caps:List Value} {p:Int->Bool} (hl:SL bC F w v l) (hk:enters prog k=true) (hp:PredI prog w k caps p) :
  Gives prog 73 #[v,.func (.func k) #[] caps.toArray] w fun x w'=>Below w.heap.size w w'/\x= .bool (l.any p):=by
 refine gv (f:=73) ?_;refine ag ?_;refine aA rfl (G9 hl hk hp) ?_;rintro y1 w1 ⟨hb1,h1⟩;rcases h1 with ⟨rfl,h1⟩|⟨i,rfl,h1⟩
 ·skip
  refine ag ?_;refine aW rfl ⟨hb1,by rw [h1]; rfl⟩
 ·skip
  refine ag ?_;refine aW rfl ⟨hb1,by rw [h1]; simp⟩
theorem zo {l:List Int} (hl:SL bC F w v l) (hs:l.length<=1000000):Gives prog 75 #[v] w fun x w'=>Below w.heap.size w w'/\SL bC (fun k=>w.heap.size<=k) w' x l/\ ∃A n c,x= .slice A n c:=by
 obtain ⟨A,cap,rfl,_⟩:=hl.form;refine gv (f:=75) ?_;refine ag ?_;refine aI [0,2,4] rfl ?_;refine au rfl (fun hnil=> ?_) (fun hsome=> ?_)
 ·refine ag ?_;have h0:l= []:=by
   cases l with
   | nil=>rfl
   | cons a l =>
    obtain ⟨ad,rfl⟩:=hl.addr (by simp);cases hnil
  subst h0;refine aW rfl ⟨ZA,SL.nil _ _ _,_,_,_,rfl⟩
 ·refine ag ?_;refine gJ 3 rfl rfl gQ ?_;rintro g w1 f1;refine ag ?_;have hO:OwnS w1 3 1 (.slice (some ⟨g,0,none⟩) 0 0) 0 []:=bu f1.blk rfl (by decide);have hl1:=hl.below f1.below;refine aK (l.map (Value.int .i64)) rfl rfl lF rfl hO rfl (by simp) ?_ (fun v hv=>by rw [List.mem_map] at hv; obtain ⟨x,_,rfl⟩:=hv; rfl) (by omega) (by omega) ?_
  ·intro j u hj;have:=SL.cells (T:=bC) (fun x=> [Value.int .i64 x]) (fun F w cs x h=>h.1) (by decide) hl1 (fun x _=>rfl) j u (by rw [yT]; exact hj);exact this
  rintro v' w2 hO2 hg2 hn2;refine ag ?_;obtain ⟨A2,c2,hv2,_⟩:=hO2.form;have hb2:Below w.heap.size w w2:=f1.below.grown hg2 f1.below.size (fun q hq=>by simp [Value.ownBlock] at hq; have:=f1.at_; omega);refine aW rfl ⟨hb2,?_,A2,_,c2,hv2⟩;refine dz (e:=3) (by simpa using hO2) (fun x hx=> ?_) (fun q hq=> ?_) (by omega);rotate_left
  ·rcases hn2 with h|h
   ·rw [h] at hq; simp [Value.ownBlock] at hq; have:=f1.at_; omega
   ·rw [h] at hq; cases hq; exact f1.below.size
  obtain ⟨i,hi,rfl⟩:=List.getElem_of_mem hx;exact hl.rngI (ZD hi)
def gone (S:List Int) (e:Ev):Bool:=e.needs.any fun r=>S.contains r
def bz (l:List Ev) (S:List Int):List Ev:=l.filter fun e=> !gone S e
def jI:GKey prog 3 Int:=Lj (G8 prog 3 .i64 underlying3) (fun a b=>by simp [G8])
def Drawn (w:World) (b:Nat) (S:List Int):Prop:= ∃m,MapL jI w b m/\(∀x,(∃v,(x,v)∈m)↔x∈S)/\ ∀p∈m,p.2= .bool true
theorem Drawn.step {w':World} (h:Drawn w b S) (hb:Below w.heap.size w w'):Drawn w' b S:=by
 obtain ⟨m,h1,h2⟩:=h;exact ⟨m,h1.below hb,h2⟩
theorem F8 {g:Nat} (hg:Blk w g 93 [.map (some b)]) (hD:Drawn w b S):PredI prog w 74 [.pointer (some ⟨g,0,none⟩)] fun x=>S.contains x:=by
 intro x w1 hb1;have hg1:=hg.next hb1;obtain ⟨m,hm,hS,hT⟩:=hD.step hb1;refine gv (f:=74) ?_;refine ag ?_;refine aj rfl (hg1.cell 0) ?_;refine ag ?_;refine mf jI x rfl rfl underlying93 I6 rfl rfl hm ?_;rintro v hv;refine ag ?_;refine aW rfl ⟨ZA,?_⟩;rcases hv with hv|⟨hv,rfl⟩
 ·have hvt:v= .bool true:=hT _ hv;rw [hvt];have:x∈S:=(hS x).1 ⟨v,hv⟩;simp [this]
 ·have: ¬x∈S:=fun h=>by
   obtain ⟨v,hv'⟩:=(hS x).2 h;exact hv _ hv' rfl
  simp [this]
theorem Cg {g:Nat} {e:Ev} {nv:Value} (hg:Blk w g 93 [.map (some b)]) (hD:Drawn w b S) (hn:SL bC F w nv e.needs) :
  Gives prog 72 #[.agg #[.int .i64 e.office,.int .i64 e.low,.int .i64 e.high,nv],.pointer (some ⟨g,0,none⟩)] w fun x w'=>Below w.heap.size w w'/\x= .bool (!gone S e):=by
 obtain ⟨A,cap,rfl,_⟩:=hn.form;refine gv (f:=72) ?_;refine ag ?_;refine aG rfl rfl rfl rfl ?_;rintro g1 w1 f1;refine ag ?_;refine aj rfl (f1.blk.fld rfl) ?_;refine aN rfl rfl (aa rfl ct ah) ?_;refine aA rfl (mY (hn.below f1.below) ie74.q (F8 (hg.next f1.below) (hD.step f1.below))) ?_;rintro y2 w2 ⟨hb2,rfl⟩;refine ag ?_;refine aW rfl ⟨f1.below.step hb2,rfl⟩
theorem F7 {u:Value} (hl:SE w v l) (hS:SL bC F w u S) (hsm:l.length<=1000000) (hne: ∀e∈l,e.needs.length<=1000000) :
  Gives prog 26 #[v,u] w fun x w'=>Below w.heap.size w w'/\SE w' x (bz l S):=by
 obtain ⟨A,cap,rfl,_⟩:=hl.form;obtain ⟨B,bcap,rfl,_⟩:=hS.form;have hSmax:S.length<=9223372036854775807:=hS.len.2.2;refine gv (f:=26) ?_;refine ag ?_;refine jy jI rfl rfl ?_;rintro b w1 hbw hw1 hb1 hM1;refine il rfl MQ rfl is93.q rfl ?_;rintro g w2 f2;refine ag ?_;have hg2:=f2.at_;refine aJ [0,5,13,14] (fun i:Nat=> [(15,none,.int .i64 (i:Int))])
  (fun i W=>i<=S.length/\But b w2 W/\Drawn W b (S.take i)) (fun i=>S.length-i) 0 ⟨ZB,But.of_below ZA,⟨[],hM1.below f2.below,fun x=>by simp,fun p hp=>by cases hp⟩⟩ ?_
 rintro i W ⟨hi,hbut,hD⟩;have hbw2:Below w.heap.size w W:=But.below (hb1.step f2.below) hbut (by omega);have hBg:Blk W g 93 [.map (some b)]:=hbut.blk f2.blk (by omega);refine ag ?_;refine ai rfl (fun hlt=> ?_) (fun hge=> ?_)
 ·have hil:i<S.length:=by omega
  have hSW:=hS.below hbw2;obtain ⟨ad,rfl⟩:=hSW.addr (by omega);have hx:S[i]?=some S[i]:=ZD hil;obtain ⟨m,hm,hmS,hmT⟩:=hD;refine ag ?_;refine aj rfl (hSW.getI hx) ?_;refine ag ?_;refine aj rfl (hBg.cell 0) ?_;refine ag ?_;refine fV jI S[i] (vz:= .bool true) rfl underlying93 rfl rfl rfl hm ?_;rintro w3 hs3 hbut3 hM3;refine ag ?_;refine aC (i+1) ⟨by omega,hbut.trans hbut3,_,hM3,fun x=> ?_,fun p hp=> ?_⟩
  ·rw [ZG,hx];constructor
   ·rintro ⟨v,hv⟩;rcases mem_lput.1 hv with h|⟨h,_⟩
    ·simp only [Prod.mk.injEq] at h; rw [h.1]; exact List.mem_append_right _ (by simp)
    ·exact List.mem_append_left _ ((hmS x).1 ⟨v,h⟩)
   ·intro h;by_cases hxe:x=S[i]
    ·exact ⟨.bool true,mem_lput.2 (.inl (by rw [hxe]))⟩
    ·rcases ZH h with h|h
     ·obtain ⟨v,hv⟩:=(hmS x).2 h;exact ⟨v,mem_lput.2 (.inr ⟨hv,hxe⟩)⟩
     ·simp at h;exact absurd h hxe
  ·rcases mem_lput.1 hp with rfl|⟨h,_⟩
   ·rfl
   ·exact hmT p h
 have hD':Drawn W b S:=by
  rw [show i=S.length by omega,List.take_length] at hD;exact hD
 refine ag ?_;refine aN rfl rfl (aa rfl ct ah) ?_;refine ag ?_;refine aJ [8,23,24] (fun x:Nat×Value×List (List Value×Ev)=> [(9,none,x.2.1),(25,none,.int .i64 (x.1:Int))])
  (fun x W'=>x.1<=l.length/\Below W.heap.size W W'/\RowL evT W' 60 W.heap.size x.2.1 x.2.2/\x.2.2.map (·.2)=bz (l.take x.1) S) (fun x=>l.length-x.1) (0,.slice none 0 0,[]) ⟨ZB,ZA,RowL.nil _ _ _ _,rfl⟩ ?_
 rintro ⟨k,rv,ps⟩ W' ⟨hk,hB,hR,hmap⟩;dsimp only at hk hB hR hmap;refine ag ?_;refine ai rfl (fun hlt2=> ?_) (fun hge2=> ?_)
 ·have hkl:k<l.length:=by omega
  obtain ⟨e,he⟩: ∃e,l[k]?=some e:=⟨l[k],ZD hkl⟩;have hem:=ZF he;have hlW:=aY hl (hbw2.step hB);obtain ⟨ad,rfl⟩:=hlW.addr (by omega);obtain ⟨nv,hcells,i1,i2,i3,hneeds⟩:=SE.get hlW he;obtain ⟨C,ncap,rfl,_⟩:=hneeds.form;have htk:bz (l.take (k+1)) S=bz (l.take k) S++if gone S e then [] else [e]:=by
   unfold bz;rw [ZG,he,List.filter_append];cases hq:gone S e<;>simp [List.filter,hq]
  refine ag ?_;refine aF rfl (hcells) ?_;refine aM rfl nY rfl is60.q rfl rfl ?_;rintro g3 w3 f3;refine ag ?_;have hB3:=hB.step f3.below;refine aF rfl (fun _ _ h=>f3.blk.fld h) ?_;refine bK rfl rfl ie72.q rfl (aa rfl ct ah) (Cg (hBg.next hB3) (hD'.step hB3) (hneeds.below f3.below)) ?_;rintro y4 w4 ⟨hb4,rfl⟩;have hB4:=hB3.step hb4;have hBk4:=f3.blk.next hb4;refine ag ?_;refine aI [8,9,11,23,24,25,31] rfl ?_;refine au rfl (fun hin=> ?_) (fun hout=> ?_)
  ·have hg0:gone S e=false:=by simpa using hin
   rw [hg0] at htk;refine ag ?_;refine aj rfl (hBk4.fld rfl) ?_;refine aA rfl (zo ((hneeds.below f3.below).below hb4) (hne e hem)) ?_;rintro y5 w5 ⟨hb5,hn5,C5,n5,c5,rfl⟩;have hBk5:=hBk4.next hb5;refine ag ?_;refine bi rfl is32.q rfl rfl hBk5 (by show 3<4; decide) rfl ?_;rintro w6 hB6 hbut6 hsz6;refine ag ?_;have hB5:=hB4.step hb5;have hB6':Below W.heap.size W w6:=hB5.grown hbut6 hB5.size (fun q hq=>by cases hq; have:=f3.at_; have:=hB.size; omega);have hg3w:W'.heap.size<=g3:=Nat.le_of_eq f3.at_.symm;refine aF rfl (fun _ _ h=>hB6.fld h) ?_;refine ak 60 _ rfl rfl rfl qP (aa rfl ct ah) rfl rfl rfl rfl rfl ?_;rintro g7 w7 f7;have hW6:Below W'.heap.size W' w6:=by
    have h5:=(f3.below.step hb4).step hb5;exact h5.grown hbut6 h5.size (fun q hq=>by cases hq; exact hg3w)
   have hR7:=(hR.step hW6).step f7.below;have hrow: ∀q,rv.ownBlock=some q->q<W'.heap.size:=fun q hq=>hR.1.lt hq;have hn7:SL bC (kF w7 rv) w7 (.slice C5 n5 c5) e.needs:=by
    have h6:=SL.mono hn5 (w':=w6) (bn fun k hk hlt=>hbut6.block k hlt (fun e=>by cases e; have:=f3.size; have:=hb4.size; omega));refine SL.wider (SL.nb sG (h6.below f7.below)) (fun k hk=>⟨hk.2,fun e=> ?_⟩);have h1:=hrow k e;have h2:=hk.1;have:=f3.below.size;have:=hb4.size;omega
   have hfew:ps.length<=1000000:=by
    have h1:ps.length=(bz (l.take k) S).length:=by rw [<-hmap]; simp
    have h2:(bz (l.take k) S).length<=(l.take k).length:=List.length_filter_le _ _;have h3:(l.take k).length<=l.length:=by rw [List.length_take]; omega
    omega
   refine aK [.int .i64 e.office,.int .i64 e.low,.int .i64 e.high,.slice C5 n5 c5] rfl rfl uS rfl hR7.1 rfl rfl (fun j v hj=>⟨⟨g7,0,none⟩,rfl,f7.blk.fld hj⟩) (fun v hv=>by simp at hv; rcases hv with rfl|rfl|rfl|rfl<;>rfl) (by omega) (by omega) ?_;rintro rv' w8 hO8 hg8 hnew8;refine ag ?_;have hW7:Below W'.heap.size W' w7:=hW6.step f7.below;have hBW7:Below W.heap.size W w7:=hB6'.step f7.below;have hown: ∀q,rv.ownBlock=some q->W.heap.size<=q:=hR.2.2;have hR8:RowL evT w8 60 W.heap.size rv' (ps++ [([.int .i64 e.office,.int .i64 e.low,.int .i64 e.high,.slice C5 n5 c5],e)]):=hR7.app hO8 hg8 hnew8 ⟨_,rfl,i1,i2,i3,hn7⟩ hBW7.size;refine aC (k+1,rv',ps++ [([.int .i64 e.office,.int .i64 e.low,.int .i64 e.high,.slice C5 n5 c5],e)]) ⟨by show k+1<=l.length; omega,hBW7.grown hg8 hBW7.size hown,hR8,?_⟩;show List.map Prod.snd (ps++ [_])=bz (l.take (k+1)) S;rw [List.map_append,hmap,htk];simp
  ·have hg1:gone S e=true:=by simpa using hout
   rw [hg1] at htk;refine ag ?_;refine aC (k+1,rv,ps) ⟨by show k+1<=l.length; omega,hB4,(hR.step f3.below).step hb4,?_⟩;show ps.map (·.2)=bz (l.take (k+1)) S;rw [hmap,htk];simp
 ·refine ag ?_;have hke:k=l.length:=by omega
  subst hke;refine aW rfl ⟨hbw2.step hB,?_⟩;have:=hR.sl (by decide);rw [hmap,List.take_length] at this;exact this
end Go.Proofs.YtobaafdejnimkaaGreatDoor
namespace Go.Ord
open Go.PF
def insS (n:Int):List Int->List Int
 | []=> [n]
 | x::l=>if x<n then x::insS n l else if x=n then x::l else n::x::l
def Inc (l:List Int):Prop:=l.Pairwise (· < ·)
theorem mem_insS {n x:Int}: ∀ {l:List Int},x∈insS n l↔x=n∨x∈l
 | []=>by simp [insS]
 | y::l=>by
  unfold insS
  split
  ·rw [List.mem_cons,mem_insS,List.mem_cons];constructor
   ·rintro (h|h|h)
    ·exact .inr (.inl h)
    ·exact .inl h
    ·exact .inr (.inr h)
   ·rintro (h|h|h)
    ·exact .inr (.inl h)
    ·exact .inl h
    ·exact .inr (.inr h)
  ·split
   ·rename_i h; subst h; simp
   ·simp
theorem Inc.insS {n:Int}: ∀ {l:List Int},Inc l->Inc (insS n l)
 | [],_=>List.pairwise_singleton _ _
 | y::l,h=>by
  have h':=List.pairwise_cons.1 h;unfold Ord.insS
  split
  ·refine List.pairwise_cons.2 ⟨fun x hx=> ?_,Inc.insS h'.2⟩;rcases mem_insS.1 hx with rfl|hx
   ·assumption
   ·exact h'.1 x hx
  ·split
   ·exact h
   ·refine List.pairwise_cons.2 ⟨fun x hx=> ?_,h⟩;rcases List.mem_cons.1 hx with rfl|hx
    ·omega
    ·have:=h'.1 x hx; omega
def insAll (a:List Int) (l:List Int):List Int:=l.foldl (fun acc n=>insS n acc) a
theorem tK {x:Int}: ∀ {l a:List Int},x∈insAll a l↔x∈a∨x∈l
 | [],a=>by simp [insAll]
 | n::l,a=>by
  have:insAll a (n::l)=insAll (insS n a) l:=rfl;rw [this,tK,mem_insS,List.mem_cons];constructor
  ·rintro ((h|h)|h)
   ·exact .inr (.inl h)
   ·exact .inl h
   ·exact .inr (.inr h)
  ·rintro (h|h|h)
   ·exact .inl (.inr h)
   ·exact .inl (.inl h)
   ·exact .inr h
theorem Inc.insAll: ∀ {l a:List Int},Inc a->Inc (insAll a l)
 | [],_,h=>h
 | n::l,a,h=>Inc.insAll (l:=l) (Inc.insS h)
def iK (l:List Ev):List Int:=l.flatMap (·.needs)
def dS (l:List Ev):List Int:=insAll [] (iK l)
theorem mem_recsS {l:List Ev} {x:Int}:x∈dS l↔ ∃e∈l,x∈e.needs:=by
 unfold dS iK;rw [tK,List.mem_flatMap];simp
theorem nJ (l:List Ev):Inc (dS l):=Inc.insAll List.Pairwise.nil
theorem Inc.nodup {l:List Int} (h:Inc l):l.Nodup:=h.imp fun h e=>by omega
theorem CB: ∀ {a b:List Int},Inc a->Inc b->(∀x,x∈a↔x∈b)->a=b
 | [],[],_,_,_=>rfl
 | [],y::b,_,_,h=>by have:=(h y).2 (by simp); cases this
 | x::a,[],_,_,h=>by have:=(h x).1 (by simp); cases this
 | x::a,y::b,ha,hb,h=>by
  have ha':=List.pairwise_cons.1 ha;have hb':=List.pairwise_cons.1 hb;have hxy:x=y:=by
   rcases List.mem_cons.1 ((h x).1 (by simp)) with e|hx
   ·exact e
   ·rcases List.mem_cons.1 ((h y).2 (by simp)) with e|hy
    ·exact e.symm
    ·have:=ha'.1 y hy;have:=hb'.1 x hx;omega
  subst hxy;rw [CB ha'.2 hb'.2 (fun z=> ?_)];constructor
  ·intro hz;rcases List.mem_cons.1 ((h z).1 (by simp [hz])) with e|hz'
   ·subst e; have:=ha'.1 z hz; omega
   ·exact hz'
  ·intro hz;rcases List.mem_cons.1 ((h z).2 (by simp [hz])) with e|hz'
   ·subst e; have:=hb'.1 z hz; omega
   ·exact hz'
theorem gL {α:Type} [DecidableEq α]: ∀ {l k:List α},l.Nodup->(∀x∈l,x∈k)->l.length<=k.length
 | [],_,_,_=>ZB
 | x::l,k,hn,hs=>by
  have hn':=List.nodup_cons.1 hn;have hx:=hs x (by simp);have:=gL (l:=l) (k:=k.erase x) hn'.2 (fun y hy=>(List.mem_erase_of_ne (fun e=>hn'.1 (by rw [<-e]; exact hy))).2 (hs y (by simp [hy])));rw [List.length_erase_of_mem hx] at this;have:=List.length_pos_of_mem hx;simp only [List.length_cons];omega
theorem tY {xs:List Int} (hn:xs.Nodup):Inc (xs.mergeSort fun x y=>decide (x<=y)):=by
 have h1:(xs.mergeSort fun x y=>decide (x<=y)).Pairwise (fun x y=>decide (x<=y)=true):=List.pairwise_mergeSort (fun a b c h1 h2=>by simp at *; omega) (fun a b=>by simp; omega) xs;have h2:(xs.mergeSort fun x y=>decide (x<=y)).Nodup:=(List.mergeSort_perm xs _).nodup_iff.2 hn;refine List.Pairwise.imp₂ (fun a b h3 h4=> ?_) h1 h2;have:a<=b:=by simpa using h3
 omega
def fI:List Int->Nat->List (List Int)
 | _,0=> [[]]
 | [],_+1=> []
 | x::l,k+1=>(fI l k).map (x:: ·)++fI l (k+1)
theorem mem_setsS: ∀ {l:List Int} {k:Nat} {s:List Int},s∈fI l k↔s.Sublist l/\s.length=k
 | l,0,s=>by
  have:fI l 0= [[]]:=by cases l<;>rfl
  rw [this,List.mem_singleton];constructor
  ·rintro rfl; exact ⟨List.nil_sublist _,rfl⟩
  ·intro h; exact List.eq_nil_of_length_eq_zero h.2
 | [],k+1,s=>by
  simp [fI];rintro rfl
  simp
 | x::l,k+1,s=>by
  simp only [fI,List.mem_append,List.mem_map];constructor
  ·rintro (⟨t,ht,rfl⟩|hs)
   ·obtain ⟨h1,h2⟩:=mem_setsS.1 ht;exact ⟨h1.cons_cons x,by simp [h2]⟩
   ·obtain ⟨h1,h2⟩:=mem_setsS.1 hs;exact ⟨h1.cons x,h2⟩
  ·rintro ⟨h1,h2⟩
   cases h1 with
   | cons _ h=>exact .inr (mem_setsS.2 ⟨h,h2⟩)
   | cons_cons _ h=>exact .inl ⟨_,mem_setsS.2 ⟨h,by simpa using h2⟩,rfl⟩
theorem mH: ∀(l:List Int) (k:Nat),l.length<k->fI l k= []
 | l,0,h=>by omega
 | [],k+1,_=>rfl
 | x::l,k+1,h=>by
  simp only [fI];rw [mH l k (by simp at h; omega),mH l (k+1) (by simp at h; omega)];rfl
theorem qB: ∀(l:List Int) (k:Nat),(fI l k).length<=(l.length+1) ^ k
 | l,0=>by cases l<;>simp [fI]
 | [],k+1=>by simp [fI]
 | x::l,k+1=>by
  have h1:=qB l k;have h2:=qB l (k+1);have h3:(l.length+1) ^ k<=(l.length+2) ^ k:=Nat.pow_le_pow_left (by omega) k;simp only [fI,List.length_append,List.length_map,List.length_cons];rw [Nat.pow_succ] at h2 ⊢;have h4:(l.length+1) ^ k*(l.length+1)<=(l.length+2) ^ k*(l.length+1):=Nat.mul_le_mul_right _ h3;have h5:(l.length+1+1) ^ k*(l.length+1+1)=(l.length+2) ^ k*(l.length+1)+(l.length+2) ^ k:=by rw [show l.length+1+1=l.length+2 from rfl,show l.length+2=(l.length+1)+1 from rfl,Nat.mul_add,Nat.mul_one]
  omega
def oJ (l:List Int) (k i:Nat):List (List Int):=match l[i]? with
 | some x=>(fI (l.drop (i+1)) k).map (x:: ·)
 | none=> []
def ic (l:List Int) (k n:Nat):List (List Int):=(List.range n).flatMap (oJ l k)
theorem kG (l:List Int) (k n:Nat):ic l k (n+1)=ic l k n++oJ l k n:=by
 simp [ic,List.range_succ,List.flatMap_append]
theorem rf (x:Int) (l:List Int) (k:Nat): ∀n,ic (x::l) k (n+1)=(fI l k).map (x:: ·)++ic l k n
 | 0=>by simp [ic,oJ]
 | n+1=>by
  rw [kG,rf x l k n,kG l k n,List.append_assoc];rfl
theorem sU: ∀(l:List Int) (k:Nat),fI l (k+1)=ic l k l.length
 | [],k=>rfl
 | x::l,k=>by
  show (fI l k).map (x:: ·)++fI l (k+1)=ic (x::l) k (l.length+1);rw [rf,sU l k]
theorem ou {l:List Int} {k:Nat}: ∀(n m:Nat),l.length<=n+k->ic l k (n+m)=ic l k n
 | n,0,_=>rfl
 | n,m+1,h=>by
  rw [<-Nat.add_assoc,kG,ou n m h];have:oJ l k (n+m)= []:=by
   unfold oJ
   split
   ·rw [mH _ _ (by rw [List.length_drop]; rename_i hx; have:=(ZE hx).1; omega)];rfl
   ·rfl
  rw [this,List.append_nil]
end Go.Ord
namespace Go.Proofs.YtobaafdejnimkaaGreatDoor
open Tryz
open Go.PF Go.RowKit Go.Ord
attribute [local irreducible] TW CW KW DW
variable {w:World} {l:List Ev} {v:Value} {d:bA}
def zL (w:World) (k:FuncId) (caps:List Value) (p:Ev->Bool):Prop:= ∀(e:Ev) (nv:Value) (F:Nat->Prop) (w':World),Below w.heap.size w w'->SL bC F w' nv e.needs ->
 Gives prog k (.agg #[.int .i64 e.office,.int .i64 e.low,.int .i64 e.high,nv]::caps).toArray w' fun u w''=>Below w'.heap.size w' w''/\u= .bool (p e)
theorem yO {k:FuncId} {caps:List Value} {p:Ev->Bool} (hl:SE w v l) (hk:enters prog k=true) (hp:zL w k caps p) :
  Gives prog 188 #[v,.func (.func k) #[] caps.toArray] w fun x w'=>Below w.heap.size w w'/\((x= .int .i64 (-1)/\l.any p=false)∨ ∃i:Nat,x= .int .i64 (i:Int)/\l.any p=true):=by
 obtain ⟨A,cap,rfl,_⟩:=hl.form;have hmax:l.length<=9223372036854775807:=hl.len.2.2;refine gv (f:=188) ?_;refine ag ?_;refine aJ [0,1,7] (fun i:Nat=> [(8,none,.int .i64 (i:Int))])
  (fun i W=>i<=l.length/\Below w.heap.size w W/\(l.take i).any p=false) (fun i=>l.length-i) 0 ⟨ZB,ZA,rfl⟩ ?_
 rintro i W ⟨hi,hB,hno⟩;refine ag ?_;refine ai rfl (fun hlt=> ?_) (fun hge=> ?_)
 ·have hil:i<l.length:=by omega
  have hlW:=aY hl hB;obtain ⟨ad,rfl⟩:=hlW.addr (by omega);obtain ⟨e,he⟩: ∃e,l[i]?=some e:=⟨l[i],ZD hil⟩;obtain ⟨nv,hcells,i1,i2,i3,hneeds⟩:=SE.get hlW he;refine ag ?_;refine aF rfl (hcells) ?_;refine bK rfl rfl hk rfl (aa rfl ct ah) (hp e nv _ _ hB hneeds) ?_;rintro y1 w1 ⟨hb1,rfl⟩;refine ag ?_;refine au rfl (fun hyes=> ?_) (fun hnot=> ?_)
  ·refine ag ?_;refine aW rfl ⟨hB.step hb1,.inr ⟨i,rfl,?_⟩⟩;rw [List.any_eq_true];exact ⟨e,ZF he,hyes⟩
  ·refine ag ?_;refine aC (i+1) ⟨by omega,hB.step hb1,?_⟩;rw [ZG,List.any_append,hno,he];simp [hnot]
 ·refine ag ?_;refine aW rfl ⟨hB,.inl ⟨rfl,?_⟩⟩;rw [show i=l.length by omega,List.take_length] at hno;exact hno
theorem zm {k:FuncId} {caps:List Value} {p:Ev->Bool} (hl:SE w v l) (hk:enters prog k=true) (hp:zL w k caps p) :
  Gives prog 145 #[v,.func (.func k) #[] caps.toArray] w fun x w'=>Below w.heap.size w w'/\x= .bool (l.any p):=by
 refine gv (f:=145) ?_;refine ag ?_;refine aA rfl (yO hl hk hp) ?_;rintro y1 w1 ⟨hb1,h1⟩;rcases h1 with ⟨rfl,h1⟩|⟨i,rfl,h1⟩
 ·skip
  refine ag ?_;refine aW rfl ⟨hb1,by rw [h1]; rfl⟩
 ·skip
  refine ag ?_;refine aW rfl ⟨hb1,by rw [h1]; simp⟩
structure WfP (d:bA) (l:List Ev):Prop where
 wd:WfD d
 few:l.length<=14
 each: ∀e∈l,EOK d e
 pos: ∀e∈l,∀r∈e.needs,0<=r
theorem WfP.wfe (h:WfP d l):WfE d l:=⟨h.wd,by have:=h.few; omega,h.each⟩
theorem tF (d:bA):Poss d []:=⟨[],rfl,by simp,List.Pairwise.nil⟩
theorem KX:PredI prog w 147 [] fun x=>decide (x<0):=by
 intro x w1 hb1;refine gv (f:=147) ?_;refine ag ?_;refine aW rfl ⟨ZA,rfl⟩
def Ij (d:bA) (e:Ev):Bool:=(e.needs.any fun x=>decide (x<0))||decide (e.office<0)||decide (e.office ≥ (d.length:Int))
theorem M6 {g:Nat} {A:Option Addr} {cap:Nat} (hg:Blk w g 30 [.slice A d.length cap]):zL w 146 [.pointer (some ⟨g,0,none⟩)] (Ij d):=by
 intro e nv F w1 hb1 hn;obtain ⟨C,ccap,rfl,_⟩:=hn.form;have hg1:=hg.next hb1;refine gv (f:=146) ?_;refine ag ?_;refine aG rfl rfl rfl rfl ?_;rintro g2 w2 f2;refine ag ?_;refine aj rfl (f2.blk.fld rfl) ?_;refine aA rfl (mY (hn.below f2.below) ie147.q KX) ?_;rintro y3 w3 ⟨hb3,rfl⟩;have hB3:=f2.blk.next hb3;have hg3:=(hg1.next f2.below).next hb3;refine ag ?_;refine aj rfl (hB3.fld rfl) ?_;refine ag ?_;refine aj rfl (hB3.fld rfl) ?_;refine aj rfl (hg3.cell 0) ?_;refine ag ?_;refine aW rfl ⟨f2.below.step hb3,rfl⟩
theorem Jt {u:Value} (hd:SD w v d) (hl:SE w u l):Gives prog 76 #[v,u] w fun x w'=>Below w.heap.size w w'/\x= .bool (dec (WfP d l)):=by
 obtain ⟨A,cap,rfl,hcap⟩:=hd.form;obtain ⟨B,lcap,rfl,hlcap⟩:=hl.form;have hlmax:l.length<=9223372036854775807:=hl.len.2.2;refine gv (f:=76) ?_;refine ag ?_;refine aG rfl rfl rfl rfl ?_;rintro g w1 f1;refine ag ?_;refine aj rfl (f1.blk.cell 0) ?_;refine aA rfl (yX (aU hd f1.below) (SL.nil evT (fun k=>k<w1.heap.size) w1)) ?_;rintro y2 w2 ⟨hb2,tv,rfl⟩;have hB2:=f1.below.step hb2;have hfd:dec (kY d [])=dec (WfD d):=fJ ⟨fun h=>h.1.wd,fun h=>⟨⟨h,by simp,by simp⟩,tF d⟩⟩;rw [hfd];refine ag ?_;refine aI [0,1,2,4,6,18] rfl ?_;refine au rfl (fun hbad=> ?_) (fun hgood=> ?_)
 ·refine ag ?_;refine aW rfl ⟨hB2,?_⟩;rw [az];intro h;rw [ay h.wd] at hbad;simp at hbad;have:=h.few;omega
 have hwd:WfD d:=dec_iff.1 (by cases hq:dec (WfD d)<;>simp_all);have hfew:l.length<=14:=by
  simp [ay hwd] at hgood;omega
 refine ag ?_;refine aN rfl rfl (aa rfl ct ah) ?_;refine aA rfl (zm (aY hl hB2) ie146.q (M6 (f1.blk.next hb2))) ?_;rintro y3 w3 ⟨hb3,rfl⟩;refine ag ?_;refine aW rfl ⟨hB2.step hb3,?_⟩
 cases ha:l.any (Ij d) with
 | true =>
  rw [az]
  ·rfl
  ·intro h;rw [List.any_eq_true] at ha;obtain ⟨e,he,hb⟩:=ha;have h1:=h.each e he;have:=h1.o1;have:=h1.o2;unfold Ij at hb;simp at hb;rcases hb with (⟨x,hx,hx0⟩|hb)|hb
   ·have:=h.pos e he x hx; omega
   ·omega
   ·omega
 | false =>
  rw [ay]
  ·rfl
  ·rw [List.any_eq_false] at ha;refine ⟨hwd,hfew,fun e he=> ?_,fun e he r hr=> ?_⟩
   ·have:=ha e he;unfold Ij at this;simp at this;exact ⟨this.1.2,this.2⟩
   ·have:=ha e he;unfold Ij at this;simp at this;exact this.1.1 r hr
end Go.Proofs.YtobaafdejnimkaaGreatDoor
namespace Go.Ord
variable {d:bA}
theorem Mb: ∀(evs:List Ev) (l:List UB),(l.map (·.1)).Perm (evs.map gZ)->l.Pairwise (fun a b=>Bef d a b∨Bef d b a)-> ∃m:List ET,m.map (·.1)=evs/\(m.map fun x=>(gZ x.1,x.2)).Perm l:=by
 intro evs
 induction evs with
 | nil =>
  intro l hl _;have:l= []:=by
   have:=hl.length_eq;simp at this;exact this
  subst this
  exact ⟨[],rfl,List.Perm.refl _⟩
 | cons e evs ih =>
  intro l hl hpw;have hm:gZ e∈l.map (·.1):=hl.mem_iff.2 (by simp);rw [List.mem_map] at hm;obtain ⟨x,hx,hxe⟩:=hm;obtain ⟨pre,post,rfl⟩:=List.append_of_mem hx;have h4:((pre++post).map (·.1)).Perm (evs.map gZ):=by
   have q:((pre++x::post).map (·.1)).Perm (gZ e::(pre++post).map (·.1)):=by
    rw [<-hxe];exact (List.perm_middle (a:=x) (l₁:=pre) (l₂:=post)).map (fun y:UB=>y.1)
   have q2:(gZ e::(pre++post).map (·.1)).Perm (gZ e::evs.map gZ):=q.symm.trans (by simpa using hl);exact List.Perm.cons_inv q2
  have hpw':(x::(pre++post)).Pairwise (fun a b=>Bef d a b∨Bef d b a):=jo List.perm_middle hpw;obtain ⟨m,hm1,hm2⟩:=ih (pre++post) h4 (List.pairwise_cons.1 hpw').2;refine ⟨(e,x.2)::m,by simp [hm1],?_⟩;refine List.Perm.trans ?_ List.perm_middle.symm;have:(gZ e,x.2)=x:=by rw [<-hxe]
  rw [List.map_cons];show ((gZ e,x.2)::_).Perm _;rw [this];exact hm2.cons x
def jU (a b:Ev) (g:Int):U:=⟨max (dF a) (dF b-g),min (bM a) (bM b-g),g,a.office.toNat,b.office.toNat⟩
def I1 (e:Ev) (t:Int):Prop:=0<=t/\t<=1000000/\e.low<=t/\t<=e.high
theorem okt_iff {e:Ev} {t:Int}:I1 e t↔dF e<=t/\t<=bM e:=by
 unfold I1 dF bM;omega
def kS (d:bA) (a b:Ev) (g:Int):Prop:=at2 d a.office.toNat b.office.toNat≠ -1/\at2 d a.office.toNat b.office.toNat<=g
def My (d:bA) (l:List ET) (a b:Ev) (g t:Int):Prop:=HoldsN d l/\I1 a t/\I1 b (t+g)/\ ∀x∈l,EN d x (a,t)∨EN d (b,t+g) x
def PossJ (d:bA) (rest:List Ev) (a b:Ev) (g:Int):Prop:=kS d a b g/\ ∃(l:List ET) (t:Int),l.map (·.1)=rest/\My d l a b g t
theorem Cy {a b:Ev} {g:Int} (ha:EOK d a) (hb:EOK d b) (hl:kS d a b g):UOK d (jU a b g):=by
 have h1:=ha.o1;have h2:=ha.o2;have h3:=hb.o1;have h4:=hb.o2;exact ⟨by show a.office.toNat<_; omega,by show b.office.toNat<_; omega,hl.1,hl.2⟩
theorem jU_win {a b:Ev} {g t:Int}:(jU a b g).low<=t/\t<=(jU a b g).high↔I1 a t/\I1 b (t+g):=by
 rw [okt_iff,okt_iff];show max (dF a) (dF b-g)<=t/\t<=min (bM a) (bM b-g)↔_;omega
theorem nO (hd:WfD d) {rest:List Ev} (he: ∀e∈rest,EOK d e) {a b:Ev} {g:Int} (ha:EOK d a) (hb:EOK d b) (hg:0<=g) (hl:kS d a b g) {us:List U} (hp:us.Perm (jU a b g::rest.map gZ)):PossJ d rest a b g↔(∀u∈us,u.low<=u.high)/\Feas d (none,0) us:=by
 have huok: ∀u∈us,UOK d u:=fun u hu=>by
  rcases List.mem_cons.1 (hp.mem_iff.1 hu) with rfl|h
  ·exact Cy ha hb hl
  ·obtain ⟨e,hx,rfl⟩:=List.mem_map.1 h;exact qy hd (he e hx)
 constructor
 ·rintro ⟨_,l,t,rfl,h,h1,h2,h3⟩;have hwin: ∀x∈l,(gZ x.1).low<=x.2/\x.2<=(gZ x.1).high:=fun x hx=>okt_iff.1 (h.each x hx);have hj:=jU_win.2 ⟨h1,h2⟩;refine ⟨fun u hu=> ?_,?_⟩
  ·rcases List.mem_cons.1 (hp.mem_iff.1 hu) with rfl|hm
   ·omega
   ·rw [List.map_map,List.mem_map] at hm;obtain ⟨x,hx,rfl⟩:=hm;have:=hwin x hx;show (gZ x.1).low<=(gZ x.1).high;omega
  ·have hf:=oF hd (l:=(jU a b g,t)::l.map fun x=>(gZ x.1,x.2)) ?_ ?_ ?_
   ·obtain ⟨o,k1,k2⟩:=hf;refine ⟨o,k1.trans (List.Perm.trans ?_ hp.symm),k2⟩;rw [List.map_cons,List.map_map,List.map_map];exact List.Perm.refl _
   ·intro x hx;rcases List.mem_cons.1 hx with rfl|hx
    ·exact Cy ha hb hl
    ·obtain ⟨y,hy,rfl⟩:=List.mem_map.1 hx;exact qy hd (he _ (List.mem_map.2 ⟨y,hy,rfl⟩))
   ·intro x hx;rcases List.mem_cons.1 hx with rfl|hx
    ·exact ⟨h1.1,hj⟩
    ·obtain ⟨y,hy,rfl⟩:=List.mem_map.1 hx;exact ⟨(h.each y hy).1,hwin y hy⟩
   ·refine List.pairwise_cons.2 ⟨fun x hx=> ?_,?_⟩
    ·obtain ⟨y,hy,rfl⟩:=List.mem_map.1 hx;rcases h3 y hy with q|q
     ·exact .inr ⟨q.1,by show y.2+0+at2 d y.1.office.toNat a.office.toNat<=t; have:=q.2; dsimp only at this; omega⟩
     ·exact .inl ⟨q.1,by show t+g+at2 d b.office.toNat y.1.office.toNat<=y.2; have:=q.2; dsimp only at this; omega⟩
    ·rw [List.pairwise_map];refine h.two.imp fun {a b} hab=> ?_;rcases hab with q|q
     ·exact .inl ⟨q.1,by show a.2+0+at2 d a.1.office.toNat b.1.office.toNat<=b.2; have:=q.2; omega⟩
     ·exact .inr ⟨q.1,by show b.2+0+at2 d b.1.office.toNat a.1.office.toNat<=a.2; have:=q.2; omega⟩
 ·rintro ⟨hw,hf⟩;obtain ⟨l,h1,h2,h3⟩:=oo hd huok hw hf;have hor:l.Pairwise (fun a b=>Bef d a b∨Bef d b a):=h3.imp fun h=> .inl h;have hm:jU a b g∈l.map (·.1):=(h1.trans hp).mem_iff.2 (by simp);obtain ⟨x,hx,hxe⟩:=List.mem_map.1 hm;obtain ⟨pre,post,rfl⟩:=List.append_of_mem hx;have h4:((pre++post).map (·.1)).Perm (rest.map gZ):=by
   have q:((pre++x::post).map (·.1)).Perm (jU a b g::(pre++post).map (·.1)):=by
    rw [<-hxe];exact (List.perm_middle (a:=x) (l₁:=pre) (l₂:=post)).map (fun y:UB=>y.1)
   exact List.Perm.cons_inv (q.symm.trans (h1.trans hp))
  have hpw':(x::(pre++post)).Pairwise (fun a b=>Bef d a b∨Bef d b a):=jo List.perm_middle hor;obtain ⟨hx1,hx2⟩:=List.pairwise_cons.1 hpw';obtain ⟨m,hm1,hm2⟩:=Mb rest (pre++post) h4 hx2;have hmem: ∀y∈m,(gZ y.1,y.2)∈pre++post:=fun y hy=>hm2.mem_iff.1 (List.mem_map.2 ⟨y,hy,rfl⟩);have hin: ∀y∈pre++post,y∈pre++x::post:=fun y hy=>by
   rcases ZH hy with h|h
   ·simp [h]
   ·simp [h]
  refine ⟨hl,m,x.2,hm1,⟨fun y hy=> ?_,?_⟩,?_⟩
  ·exact okt_iff.2 (h2 _ (hin _ (hmem y hy))).2
  ·have hpm:=jo hm2.symm hx2;rw [List.pairwise_map] at hpm;refine hpm.imp fun {a b} hab=> ?_;rcases hab with q|q
   ·refine .inl ⟨q.1,?_⟩;have:a.2+0+at2 d a.1.office.toNat b.1.office.toNat<=b.2:=q.2;omega
   ·refine .inr ⟨q.1,?_⟩;have:b.2+0+at2 d b.1.office.toNat a.1.office.toNat<=a.2:=q.2;omega
  ·have hj:=(h2 x (by simp)).2;rw [hxe] at hj;obtain ⟨j1,j2⟩:=jU_win.1 hj;refine ⟨j1,j2,fun y hy=> ?_⟩;rcases hx1 _ (hmem y hy) with q|q
   ·right;have e1:at2 d x.1.exit (gZ y.1).entry=at2 d b.office.toNat y.1.office.toNat:=by rw [hxe]; rfl
    have e2:x.1.span=g:=by rw [hxe]; rfl
    have q1:=q.1;have q2:x.2+x.1.span+at2 d x.1.exit (gZ y.1).entry<=y.2:=q.2;rw [e1] at q1 q2;rw [e2] at q2;exact ⟨q1,by show at2 d b.office.toNat y.1.office.toNat<=y.2-(x.2+g); omega⟩
   ·left;have e1:at2 d (gZ y.1).exit x.1.entry=at2 d y.1.office.toNat a.office.toNat:=by rw [hxe]; rfl
    have q1:=q.1;have q2:y.2+0+at2 d (gZ y.1).exit x.1.entry<=x.2:=q.2;rw [e1] at q1 q2;exact ⟨q1,by show at2 d y.1.office.toNat a.office.toNat<=x.2-y.2; omega⟩
end Go.Ord
namespace Go.PF
open Go.RowKit Go.ChangeMaps
variable {P:Program} {κ:Type} {kt:TypeId}
def WalkM (K:GKey P kt κ) (w:World) (r bm:Nat) (m:List (κ×Value)) (pre:List κ) (last:Option (κ×Value)):Prop :=
 ∃ es clock since seen c0,w.heap[bm]?=some (.map es clock)/\es.toList.map (fun e=>(e.key,e.val))=m.map (fun p=>(K.enc p.1,p.2))/\(es.toList.map (·.born)).Nodup/\w.heap[r]?=some (.mapIter (some bm) since seen c0) /\
  (∀e∈es.toList,e.born<since)/\since<=c0/\(∀e∈es.toList,∀k,e.key=K.enc k->(seen.contains e.born=true↔k∈pre)) /\
  since<=clock/\m.Pairwise (fun p q=>p.1≠q.1)/\ ∀k v,last=some (k,v)->c0=clock/\ ∃(e:MapEntry) (seen0:Array Nat),e∈es.toList/\e.key=K.enc k/\e.val=v/\seen=seen0.push e.born
theorem WalkM.kept {K:GKey P kt κ} {w w':World} {r bm:Nat} {m:List (κ×Value)} {pre:List κ} {last:Option (κ×Value)} (h:WalkM K w r bm m pre last) (hr:w'.heap[r]?=w.heap[r]?) (hb:w'.heap[bm]?=w.heap[bm]?):WalkM K w' r bm m pre last:=by
 obtain ⟨es,clock,since,seen,c0,h1,h2,h3,h4,h5⟩:=h;exact ⟨es,clock,since,seen,c0,hb.trans h1,h2,h3,hr.trans h4,h5⟩
theorem WalkM.iter {K:GKey P kt κ} {w:World} {r bm:Nat} {m:List (κ×Value)} {pre:List κ} {last:Option (κ×Value)} (h:WalkM K w r bm m pre last): ∃o,w.heap[r]?=some o/\ctl o=true:=by
 obtain ⟨es,clock,since,seen,c0,h1,h2,h3,h4,h5⟩:=h;exact ⟨_,h4,rfl⟩
theorem WalkM.ne {K:GKey P kt κ} {w:World} {r bm:Nat} {m:List (κ×Value)} {pre:List κ} {last:Option (κ×Value)} (h:WalkM K w r bm m pre last):r≠bm:=by
 obtain ⟨es,clock,since,seen,c0,h1,h2,h3,h4,h5⟩:=h;intro e;rw [e,h1] at h4;cases h4
theorem wP {K:GKey P kt κ} {es:List MapEntry} {m:List (κ×Value)} (h:es.map (fun e=>(e.key,e.val))=m.map (fun p=>(K.enc p.1,p.2))) {e:MapEntry} (he:e∈es): ∃k v,(k,v)∈m/\e.key=K.enc k/\e.val=v:=by
 have:(e.key,e.val)∈m.map (fun p=>(K.enc p.1,p.2)):=by rw [<-h]; exact List.mem_map.2 ⟨e,he,rfl⟩
 rw [List.mem_map] at this;obtain ⟨p,hp,hpe⟩:=this;simp only [Prod.mk.injEq] at hpe;exact ⟨p.1,p.2,hp,hpe.1.symm,hpe.2.symm⟩
theorem xn {K:GKey P kt κ} {es:List MapEntry} {m:List (κ×Value)} (h:es.map (fun e=>(e.key,e.val))=m.map (fun p=>(K.enc p.1,p.2))) {k:κ} {v:Value} (hp:(k,v)∈m): ∃e∈es,e.key=K.enc k/\e.val=v:=by
 have:(K.enc k,v)∈es.map (fun e=>(e.key,e.val)):=by rw [h]; exact List.mem_map.2 ⟨(k,v),hp,rfl⟩
 rw [List.mem_map] at this;obtain ⟨e,he,hee⟩:=this;simp only [Prod.mk.injEq] at hee;exact ⟨e,he,hee.1,hee.2⟩
section
variable {r:Option Nat} {Q:Exit->Act->World->Prop} {N:Nat} {ds:List Deferred} {ops rest:List Oper} {E:Env} {w:World}
variable {d:Option Tmp} {ty:TypeId} {pos:String} {af:Array Edge} {gu:Option (Nat×Bool)} {x:Operand}
theorem wu (K:GKey P kt κ) {t et:TypeId} {bm:Nat} {m:List (κ×Value)} (hg:gu=none) (hd:be N d=true) (ht:P.underlying t=some (.map kt et)) (hx:ev E x=some (none,.map (some bm))) (hm:MapL K w bm m)
  (next: ∀it w',it=w.heap.size->w'.heap.size=it+1->Below w.heap.size w w'->WalkM K w' it bm m [] none->TW P r Q N ds ops rest (ins E d none (.pointer (some ⟨it,0,none⟩))) w'):TW P r Q N ds ops (⟨d,.range t x,ty,pos,af,gu⟩::rest) E w:=by
 obtain ⟨⟨es,cl,hh,he,hbn,hbc⟩,hon⟩:=hm;have hobj:(getObj bm).run P w= .ok (.map es cl) w:=by simp [getObj,Sem.run,hh]
 refine iq (v:= .pointer (some ⟨w.heap.size,0,none⟩)) (w':=w.alloc (.mapIter (some bm) cl #[] cl)) hg hd rfl (fun a ha=> ?_) (next _ _ rfl (by simp) ((ZA).alloc ZC _) ?_)
 ·simp only [execOp];rw [ha.eval hx trivial];simp [Instr.range,run_underlying ht,hobj,newObj,Sem.run]
 ·have hlt:=(Array.getElem?_eq_some_iff.1 hh).1;refine ⟨es,cl,cl,#[],cl,?_,he,hbn,heap_alloc_new w _,hbc,ZC,(fun e _ k _=>by simp),ZC,hon,fun k v h=>by cases h⟩;have:=(ni w (.mapIter (some bm) cl #[] cl)).block bm hlt;exact this.trans hh
theorem zI (K:GKey P kt κ) {it bm:Nat} {m:List (κ×Value)} {pre:List κ} {last:Option (κ×Value)} (hg:gu=none) (hd:be N d=true) (hx:ev E x=some (none,.pointer (some ⟨it,0,none⟩))) (hw:WalkM K w it bm m pre last)
  (n1:(∀p∈m,p.1∈pre)->TW P r Q N ds ops rest (ins E d none (.tuple #[.bool false])) w)
  (n2: ∀k v w',(k,v)∈m->k ∉ pre->w'.heap.size=w.heap.size->But it w w'->ExtF it w w'->WalkM K w' it bm m (pre++ [k]) (some (k,v))->TW P r Q N ds ops rest (ins E d none (.tuple #[.bool true,K.enc k,v])) w'):TW P r Q N ds ops (⟨d,.next x false,ty,pos,af,gu⟩::rest) E w:=by
 have hne:=hw.ne;obtain ⟨es,clock,since,seen,c0,h1,h2,h3,h4,h5,h6,h7,hsc,hon,h8⟩:=hw;rcases run_next_at (P:=P) w ty it bm since c0 seen es clock h4 h1 h5 h6 with ⟨h0,hrun⟩|⟨e,he,w1,hw1,hrun⟩
 ·refine iq (v:= .tuple #[.bool false]) (w':=w) hg hd rfl (fun a ha=> ?_) (n1 fun p hp=> ?_)
  ·simp only [execOp];rw [ha.eval hx trivial];simp [hrun]
  ·obtain ⟨e,he,hk,_⟩:=xn h2 (k:=p.1) (v:=p.2) hp;refine (h7 e he p.1 hk).1 ?_
   cases hs:seen.contains e.born with
   | true=>rfl
   | false =>
    exfalso;have hm:e∈(leftOf es seen).toList:=by unfold leftOf; simp only [Array.toList_filter,List.mem_filter]; exact ⟨he,by rw [hs]; rfl⟩
    have:(leftOf es seen).toList= []:=by rw [Array.toList_eq_nil_iff]; exact Array.eq_empty_of_size_eq_zero h0
    rw [this] at hm; cases hm
 ·have hee:e∈es.toList/\seen.contains e.born=false:=by
   unfold leftOf at he;simp only [Array.toList_filter,List.mem_filter] at he;exact ⟨he.1,by simpa using he.2⟩
  obtain ⟨k,v,hkv,hk,hv⟩:=wP h2 hee.1;have hnp:k ∉ pre:=fun h=>by
   have:=(h7 e hee.1 k hk).2 h;rw [hee.2] at this; cases this
  have hit:it<w.heap.size:=(Array.getElem?_eq_some_iff.1 h4).1;have hheap:w1.heap=w.heap:=by rcases hw1 with rfl|rfl<;>rfl
  have hos:w1.os=w.os/\w1.tape=w.tape/\w1.output=w.output:=by rcases hw1 with rfl|rfl<;>exact ⟨rfl,rfl,rfl⟩
  have hext:ExtF it w (setBlock w1 it (.mapIter (some bm) since (seen.push e.born) clock)):=by
   refine ⟨hos.1,hos.2.1,hos.2.2,by simp [setBlock,hheap],fun q o ho hc=> ?_⟩;by_cases hq:it=q
   ·subst hq;rw [h4] at ho;cases ho;rcases hc with h|h
    ·omega
    ·cases h
   ·simp [setBlock,hheap,Array.getElem?_setIfInBounds_ne hq]; exact ho
  refine iq (v:= .tuple #[.bool true,K.enc k,v]) (w':=setBlock w1 it (.mapIter (some bm) since (seen.push e.born) clock)) hg hd rfl (fun a ha=> ?_) (n2 k v _ hkv hnp (by simp [setBlock,hheap]) ⟨hos.1,hos.2.1,hos.2.2,by simp [setBlock,hheap],fun q hq hn=> ?_⟩ hext ?_)
  ·simp only [execOp];rw [ha.eval hx trivial];simp [hrun,hk,hv]
  ·have:it≠q:=fun e=>hn (by rw [e]);simp [setBlock,hheap,Array.getElem?_setIfInBounds_ne this]
  ·refine ⟨es,clock,since,seen.push e.born,clock,?_,h2,h3,by simp [setBlock,hheap,hit],h5,hsc,fun e' he' k' hk'=> ?_,hsc,hon,fun k' v' hkv'=> ?_⟩
   ·simp [setBlock,hheap,Array.getElem?_setIfInBounds_ne hne]; exact h1
   ·rw [List.mem_append,List.mem_singleton,<-h7 e' he' k' hk'];simp only [Array.contains_iff_mem,Array.mem_push];constructor
    ·rintro (h|h)
     ·exact .inl h
     ·right;have hinj:e'=e:=by
       obtain ⟨i,hi,hie⟩:=List.getElem_of_mem he';obtain ⟨j,hj,hje⟩:=List.getElem_of_mem hee.1;have:i=j:=by
        have hn:=List.pairwise_iff_getElem.1 h3;rcases Nat.lt_trichotomy i j with q|q|q
        ·have:=hn i j (by simpa using hi) (by simpa using hj) q;simp only [List.getElem_map,hie,hje] at this;exact absurd h this
        ·exact q
        ·have:=hn j i (by simpa using hj) (by simpa using hi) q;simp only [List.getElem_map,hie,hje] at this;exact absurd h.symm this
       subst this;rw [<-hie,<-hje]
      rw [hinj,hk] at hk';exact (K.inj _ _ hk').symm
    ·rintro (h|rfl)
     ·exact .inl h
     ·right;have hlen:es.toList.length=m.length:=by have:=congrArg List.length h2; simpa using this
      obtain ⟨i,hi,hie⟩:=List.getElem_of_mem he';obtain ⟨j,hj,hje⟩:=List.getElem_of_mem hee.1;have key: ∀(i:Nat) (hi:i<es.toList.length),es.toList[i].key=K.enc (m[i]'(by omega)).1:=fun i hi=>by
       have:=congrArg (fun l=>l[i]?) h2;simp only [List.getElem?_map,ZD hi,ZD (show i<m.length by omega),Option.map_some,Option.some.injEq,Prod.mk.injEq] at this;exact this.1
      have e1:(m[i]'(by omega)).1=k':=K.inj _ _ (by rw [<-key i hi,hie,hk']);have e2:(m[j]'(by omega)).1=k':=K.inj _ _ (by rw [<-key j hj,hje,hk]);have hn:=List.pairwise_iff_getElem.1 hon;have hij:i=j:=by
       rcases Nat.lt_trichotomy i j with q|q|q
       ·exact absurd (e1.trans e2.symm) (hn i j (by omega) (by omega) q)
       ·exact q
       ·exact absurd (e2.trans e1.symm) (hn j i (by omega) (by omega) q)
      subst hij;rw [<-hie,<-hje]
   ·cases hkv';exact ⟨rfl,e,seen,hee.1,hk,hv,rfl⟩
theorem ww (K:GKey P kt κ) {it bm:Nat} {m:List (κ×Value)} {pre:List κ} {k:κ} {v:Value} (hg:gu=none) (hd:be N d=true) (hx:ev E x=some (none,.pointer (some ⟨it,0,none⟩))) (hw:WalkM K w it bm m pre (some (k,v)))
  (next:TW P r Q N ds ops rest (ins E d none (.tuple #[K.enc k,v])) w):TW P r Q N ds ops (⟨d,.entry x,ty,pos,af,gu⟩::rest) E w:=by
 obtain ⟨es,clock,since,seen,c0,h1,h2,h3,h4,h5,h6,h7,hsc,hon,h8⟩:=hw;obtain ⟨rfl,e,seen0,he,hk,hv,rfl⟩:=h8 k v rfl;refine iq (v:= .tuple #[K.enc k,v]) (w':=w) hg hd rfl (fun a ha=> ?_) next
 simp only [execOp];rw [ha.eval hx trivial];have:=run_entry_at (P:=P) w it bm since seen0 es c0 e h4 h1 he h3;simp [this,hk,hv]
theorem MapL.keys {K:GKey P kt κ} {b:Nat} {m:List (κ×Value)} (h:MapL K w b m):(m.map (·.1)).Nodup:=by
 unfold List.Nodup;rw [List.pairwise_map];exact h.once
end
def C4 {α:Type} (P:Program) (gf:FuncId) (cap:List Value) (enc:α->List Value) (Pos:List α->α->(Nat->Prop)->World->Prop) (Done:List α->Prop) (own:Nat->Prop) (w0:World):Prop :=
 ∀ (l:Nat) (J Jx:List α->(Nat->Prop)->World->Prop) (W:World) (M:Nat->Prop),
  (∀k,own k->k<w0.heap.size->W.heap[k]?=w0.heap[k]?)->w0.heap.size<=W.heap.size->l<W.heap.size->(∀k,own k-> ¬M k/\k≠l)->(∀k,M k->k<W.heap.size) ->
  (∀pre M W1 W2,J pre M W1->ExtF W.heap.size W1 W2->J pre M W2)->(∀pre M W1 W2,Jx pre M W1->ExtF W.heap.size W1 W2->Jx pre M W2) ->
  (∀pre x M W1,J pre M W1->Pos pre x M W1->(∀k,M k->k<W1.heap.size)->l<W1.heap.size->Yields P l (enc x).toArray W1 (Rnd l J Jx (pre++ [x]) M W1)) ->
  J [] M W ->
  Gives P gf (.func (.yield l) #[] #[]::cap).toArray W fun _ W'=>(∃xs M',Done xs/\J xs M' W')∨(∃pre M',Jx pre M' W')
section
variable {r:Option Nat} {Q:Exit->Act->World->Prop} {N:Nat} {ds:List Deferred} {ops rest:List Oper} {E:Env} {w:World} {G:Option Bool}
theorem lL {α:Type} {g:Operand} {ps:List Tmp} {assign body:Code} {gf:FuncId} {cap:List Value} {enc:α->List Value} {Pos:List α->α->(Nat->Prop)->World->Prop} {Done:List α->Prop} {own:Nat->Prop}
  (hg:ev E g=some (none,.func (.func gf) #[] cap.toArray)) (he:enters P gf=true) (hit:C4 P gf cap enc Pos Done own w) (hps:ps.all (fun t=>Nat.blt t N)=true) (hlen: ∀x,(enc x).length=ps.length)
  (J:List α->(Nat->Prop)->World->Prop) (Jx:Code->List α->(Nat->Prop)->World->Prop) (M:Nat->Prop) (hM: ∀k,M k->k<w.heap.size/\ ¬own k) (hown: ∀k,own k->k<w.heap.size)
  (hJ: ∀pre M W1 W2,J pre M W1->ExtF w.heap.size W1 W2->J pre M W2) (hJx: ∀c pre M W1 W2,Jx c pre M W1->ExtF w.heap.size W1 W2->Jx c pre M W2) (h0:J [] M w)
  (round: ∀D L pre x M W,w.heap.size<=D->D<L->J pre M W->Pos pre x M W->(∀k,M k->k<W.heap.size)-> ¬M L-> ¬M D->RecIs N E ps assign body D W L .ready none ->
   CW P (some L) (Exit.then (fun a1 W1=> ∃W2,(Instr.beginRound L).run P W1= .ok () W2 /\
    body.wpIn (FR (some L)) 0 P (lW P L (Rnd L (fun pre M' W'=>J pre M' W'/\ ¬M' L/\ ¬M' D/\RecIs N E ps assign body D W' L .ready none) (fun pre M' W'=> ∃c,Jx c pre M' W'/\RecIs N E ps assign body D W' L .done (some c)) (pre++ [x]) M W)) a1 W2) (fun _ _ _=>False)) N [] assign (yN E ps (enc x)) W)
  (done: ∀D xs M W,w.heap.size<=D->Done xs->J xs M W-> ¬M D->W.heap[D]?=some (.deferred (some []))->KW N ({target:= .collected D,args:= #[]}::ds) (Q .normal) E W)
  (stop: ∀D c pre M W,w.heap.size<=D->Jx c pre M W->W.heap[D]?=some (.deferred (some []))->CW P none Q N ({target:= .collected D,args:= #[]}::ds) c E W) :
  CW P none Q N ds (.rangeFunc g ps.toArray assign body) E w:=by
 intro a ha;refine wpIn_rangeFunc fun fn _=> ?_;obtain ⟨W1,hW1⟩: ∃W1,(w.alloc (.deferred (some []))).alloc (.loop {state:= .ready,pending:=none,fn:=fn,tmps:=a.tmps,params:=ps.toArray,assign:=assign,body:=body,defers:=w.heap.size})=W1:=⟨_,rfl⟩;have hsz:W1.heap.size=w.heap.size+2:=by rw [<-hW1]; simp
 have hL1:W1.heap[w.heap.size+1]?=some (.loop {state:= .ready,pending:=none,fn:=fn,tmps:=a.tmps,params:=ps.toArray,assign:=assign,body:=body,defers:=w.heap.size}):=by
  rw [<-hW1]; have:=World.alloc_heap_new (w.alloc (.deferred (some []))) (.loop {state:= .ready,pending:=none,fn:=fn,tmps:=a.tmps,params:=ps.toArray,assign:=assign,body:=body,defers:=w.heap.size}); rwa [World.size_alloc] at this
 have hD1:W1.heap[w.heap.size]?=some (.deferred (some [])):=by
  rw [<-hW1]; exact (Below.heap_alloc _ _ _ (by simp)).trans (World.alloc_heap_new w _)
 have hb1:Below w.heap.size w W1:=by
  rw [<-hW1]; exact ((Below.refl _ w).alloc ZC _).alloc (by simp) _
 have hrec:RecIs N E ps assign body w.heap.size W1 (w.heap.size+1) .ready none:=⟨fn,a.tmps,⟨ha.size,rfl,ha.slots⟩,hL1⟩
 let J':List α->(Nat->Prop)->World->Prop:=fun pre M W=>(J pre M W/\ ¬M (w.heap.size+1)/\ ¬M w.heap.size/\RecIs N E ps assign body w.heap.size W (w.heap.size+1) .ready none)/\W.heap[w.heap.size]?=some (.deferred (some []))
 let Jx':List α->(Nat->Prop)->World->Prop:=fun pre M W=>(∃c,Jx c pre M W/\RecIs N E ps assign body w.heap.size W (w.heap.size+1) .done (some c))/\W.heap[w.heap.size]?=some (.deferred (some []))
 have hM': ∀k,M k->k<w.heap.size:=fun k hk=>(hM k hk).1
 have hgives:=hit (w.heap.size+1) J' Jx' W1 M (fun k hk hlt=>hb1.block k hlt) (by omega) (by omega)
  (fun k hk=>⟨fun hm=>(hM k hm).2 hk,by have:=hown k hk; omega⟩) (fun k hk=>by have:=hM' k hk; omega)
  (fun pre M Wa Wb ⟨⟨h1,h2,h3,h4⟩,h5⟩ hx=>⟨⟨hJ _ _ _ _ h1 (hx.less (by omega)),h2,h3,h4.ext hx (by omega)⟩,hx.block _ _ h5 (.inl (by omega))⟩)
  (fun pre M Wa Wb ⟨⟨c,h1,h2⟩,h5⟩ hx=>⟨⟨c,hJx _ _ _ _ _ h1 (hx.less (by omega)),h2.ext hx (by omega)⟩,hx.block _ _ h5 (.inl (by omega))⟩)
  (fun pre x M2 Wa ⟨⟨h1,h2,h3,h4⟩,h5⟩ hpos hMlt hlt=>by
   have hy:=my (P:=P) (R:=Rnd (w.heap.size+1) (fun pre M' W'=>J pre M' W'/\ ¬M' (w.heap.size+1)/\ ¬M' w.heap.size/\RecIs N E ps assign body w.heap.size W' (w.heap.size+1) .ready none) (fun pre M' W'=> ∃c,Jx c pre M' W'/\RecIs N E ps assign body w.heap.size W' (w.heap.size+1) .done (some c)) (pre++ [x]) M2 Wa) (vs:=enc x) h4 (hlen x) hps
    (round w.heap.size (w.heap.size+1) pre x M2 Wa ZC (by omega) h1 hpos hMlt h2 h3 h4)
   refine hy.mono fun b W' hR=>⟨hR.size,hR.kept,fun hb=> ?_,fun hb=> ?_⟩
   ·obtain ⟨M',hj,hm⟩:=hR.yes hb;exact ⟨M',⟨hj,(hR.kept _ (by omega) h3 (by omega)).trans h5⟩,hm⟩
   ·obtain ⟨M',hj⟩:=hR.no hb;exact ⟨M',hj,(hR.kept _ (by omega) h3 (by omega)).trans h5⟩)
  ⟨⟨hJ _ _ _ _ h0 (.of_below hb1),fun hm=>by have:=hM' _ hm; omega,fun hm=>by have:=hM' _ hm; omega,hrec⟩,hD1⟩
 refine ⟨w.heap.size+1,[{target:= .collected w.heap.size,args:= #[]}],W1,{target:= .fn (.func gf) cap.toArray,args:= #[.func (.yield (w.heap.size+1)) #[] #[]]},W1,gf,
  (.func (.yield (w.heap.size+1)) #[] #[]::cap).toArray,W1,?_,?_,fun _ _=>trivial,?_,fun h=>by simp [Fence.wide] at h,?_⟩
 ·rw [<-hW1]; exact run_enterLoop_outer _ _ _ _ _
 ·simp only [resolve,ha.eval hg trivial];simp [Deferred.ofValue,Act.eval]
 ·simp [invoke,jX he]
 ·refine CallsIn.mono (jh hgives) ?_;rintro e W2 ⟨v,rfl,hR⟩;rcases hR with ⟨xs,M',hdone,⟨h1,h2,h3,fn',tmps',hf',hh'⟩,h5⟩|⟨pre,M',⟨c,h1,fn',tmps',hf',hh'⟩,h5⟩
  ·have hlt:w.heap.size+1<W2.heap.size:=(Array.getElem?_eq_some_iff.1 hh').1;refine ⟨_,_,run_endLoop hh' (by simp),?_⟩;refine done w.heap.size xs M' _ ZC hdone (hJ _ _ _ _ h1 (ExtF.putObj hh' rfl (by omega))) h3 ((World.putObj_heap_other (by omega)).trans h5) _ ⟨ha.size,by simp [ha.defers],ha.slots⟩
  ·have hlt:w.heap.size+1<W2.heap.size:=(Array.getElem?_eq_some_iff.1 hh').1;refine ⟨_,_,run_endLoop hh' (by simp),?_⟩;exact stop w.heap.size c pre M' _ ZC (hJx _ _ _ _ _ h1 (ExtF.putObj hh' rfl (by omega))) ((World.putObj_heap_other (by omega)).trans h5) _ ⟨ha.size,by simp [ha.defers],ha.slots⟩
end
end Go.PF
namespace Go.PF
open Go.RowKit
variable {α:Type}
theorem tV {β:Type} (f:β->List Value) (n:Nat): ∀(ps:List β),(∀p∈ps,(f p).length=n)->(ps.flatMap f).length=ps.length*n
 | [],_=>by simp
 | p::ps,h=>by
  rw [List.flatMap_cons,List.length_append,tV f n ps (fun q hq=>h q (List.mem_cons_of_mem _ hq)),h p (List.mem_cons_self ..),List.length_cons,Nat.add_mul];omega
theorem SL.flat {T:Ty α} (h0:0<T.n) {F:Nat->Prop} {w:World} {A:Option Addr} {n cap:Nat} {l:List α} (h:SL T F w (.slice A n cap) l) :
  ∃ ps:List (List Value×α),ps.map (·.2)=l/\(∀p∈ps,T.rep F w p.1 p.2)/\(ps.flatMap (·.1)).length=n*T.n/\ ∀j u,(ps.flatMap (·.1))[j]?=some u-> ∃ad,A=some ad/\w.cell? (ad.add j)=some u:=by
 obtain ⟨A',cap',hv,h1,h2,h3⟩:=h;simp only [Value.slice.injEq] at hv;obtain ⟨rfl,rfl,rfl⟩:=hv;have key: ∀(k:Nat),k<=l.length-> ∃ps:List (List Value×α),ps.map (·.2)=l.take k/\(∀p∈ps,T.rep F w p.1 p.2)/\ ∀i p,ps[i]?=some p-> ∃ad,A=some ad/\ ∀j u,p.1[j]?=some u->w.cell? ((ad.add (i*T.n)).add j)=some u:=by
  intro k
  induction k with
  | zero=>exact fun _=>⟨[],by simp,(fun p hp=>by cases hp),(fun i p hp=>by simp at hp)⟩
  | succ k ih =>
   intro hk;obtain ⟨ps,q1,q2,q3⟩:=ih (by omega);have hx:l[k]?=some l[k]:=ZD (by omega);obtain ⟨ad,cs,ha,_,hc,hr⟩:=h3 k _ hx;have hpl:ps.length=k:=by have:=congrArg List.length q1; simp at this; omega
   refine ⟨ps++ [(cs,l[k])],by rw [List.map_append,q1,ZG,hx]; rfl,fun p hp=> ?_,fun i p hp=> ?_⟩
   ·rcases ZH hp with hp|hp
    ·exact q2 p hp
    ·rw [List.mem_singleton] at hp; subst hp; exact hr
   ·rcases Nat.lt_trichotomy i k with hi|hi|hi
    ·rw [List.getElem?_append_left (by omega)] at hp;exact q3 i p hp
    ·rw [List.getElem?_append_right (by omega),hpl,hi] at hp;simp at hp;subst hp;subst hi;exact ⟨ad,ha,hc⟩
    ·rw [List.getElem?_eq_none (by simp; omega)] at hp;cases hp
 obtain ⟨ps,q1,q2,q3⟩:=key l.length ZC;rw [List.take_length] at q1;have hlen: ∀p∈ps,p.1.length=T.n:=fun p hp=>T.len _ _ _ _ (q2 p hp);have hpl:ps.length=l.length:=by rw [<-q1]; simp
 have hfl:(ps.flatMap (·.1)).length=ps.length*T.n:=by
  exact tV (fun p:List Value×α=>p.1) T.n ps hlen
 refine ⟨ps,q1,q2,by rw [hfl,hpl],fun j u hj=> ?_⟩;have hjl:j<ps.length*T.n:=by rw [<-hfl]; exact (ZE hj).1
 have hd:=Nat.div_add_mod' j T.n;have hm:=Nat.mod_lt j h0;have hi:j / T.n<ps.length:=(Nat.div_lt_iff_lt_mul h0).2 hjl;have hp:ps[j / T.n]?=some ps[j / T.n]:=ZD hi;have hf:=uj T.n ps hlen (j / T.n) (j%T.n) _ hp hm;rw [hd,hj] at hf;obtain ⟨ad,ha,hc⟩:=q3 _ _ hp;refine ⟨ad,ha,?_⟩;have:=hc (j%T.n) u hf.symm
 rwa [add_add,hd] at this
def Ty.One (T:Ty α):Prop:= ∀F w cs x,T.rep F w cs x-> ∀u∈cs,Value.oneCell' u=true
theorem Gu {T:Ty α} (hT:T.One) {F:Nat->Prop} {w:World} {ps:List (List Value×α)} (h: ∀p∈ps,T.rep F w p.1 p.2): ∀u∈ps.flatMap (·.1),Value.oneCell' u=true:=fun u hu=>by
 obtain ⟨p,hp,hup⟩:=List.mem_flatMap.1 hu;exact hT _ _ _ _ (h p hp) u hup
theorem uH {T:Ty α} (h0:0<T.n) {w0 w:World} {e:TypeId} {v:Value} {n:Nat} {F:Nat->Prop} (hb:Below w0.heap.size w0 w) {ps:List (List Value×α)} (hr: ∀p∈ps,T.rep F w0 p.1 p.2) (h:OwnS w e T.n v n (ps.flatMap (·.1))) (hn:n=ps.length) (hbig:ps.length<=9223372036854775807) :
  SL T (fun k=>F k∨v.ownBlock=some k) w v (ps.map (·.2)) :=
 dR ps (fun p hp=>T.wider _ _ _ _ _ (fun _ hk=> .inl hk) (T.mono _ _ _ _ _ (Kept.of_below hb) (hr p hp))) h0 h hn (fun _ hg=> .inr hg) hbig
theorem tQ: ∀ {E E':Env} {i:Nat} {c:Option Bool} {v:Value},look (E++E') i=some (c,v)->look E i=some (c,v)∨look E' i=some (c,v)
 | [],_,_,_,_,h=> .inr h
 | (j,c0,v0)::E,E',i,c,v,h=>by
  simp only [List.cons_append,look] at h ⊢;by_cases hi:j=i
  ·subst hi;rw [eu] at h ⊢;exact .inl h
  ·rw [kC hi] at h ⊢;exact tQ h
theorem ii {N:Nat} {ds:List Deferred} {D:DE} {w:World} {K:Act->World->Prop} (ks:List Nat) (E:Env) (hE:oG D ks=some E) (is:List Nat) {es:List Ent} (hp:Bp D is=some es) (h: ∀vs w',Below w.heap.size w w'->Sats es vs w'->KW N ds K (E++zO is vs) w') :
  ∀ a w',Below w.heap.size w w'->FitD N ds D a w'->K a w' :=
 fun a w' hb ha=>h _ w' hb (ha.sel hp) a ⟨ha.size,ha.defers,fun i c v hl=>(tQ hl).elim ((ha.pick hE).slots i c v) ((ha.zip is).slots i c v)⟩
def Ce:Option Bool->Option Bool
 | some true=>none
 | c=>c
def sure:Env->Env
 | []=> []
 | (i,c,v)::E=>(i,Ce c,v)::sure E
theorem De (c:Option Bool):aV (Ce c)↔aV c:=by
 rcases c with _|_|_<;>simp [Ce,aV]
theorem vF: ∀ {E:Env} {i:Nat} {c:Option Bool} {v:Value},look (sure E) i=some (c,v)-> ∃c',look E i=some (c',v)/\Ce c'=c
 | [],_,_,_,h=>by cases h
 | (j,c0,v0)::E,i,c,v,h=>by
  simp only [sure,look] at h ⊢;by_cases hi:j=i
  ·subst hi;rw [eu] at h ⊢;simp only [Option.some.injEq,Prod.mk.injEq] at h ⊢;obtain ⟨h1,h2⟩:=h;exact ⟨c0,⟨rfl,h2⟩,h1⟩
  ·rw [kC hi] at h ⊢;exact vF h
theorem Fit.sure {N:Nat} {ds:List Deferred} {E:Env} {a:Act} (h:Fit N ds E a):Fit N ds (PF.sure E) a :=
 ⟨h.size,h.defers,fun i c v hl=>by
  obtain ⟨c',h1,rfl⟩:=vF hl;rw [De];exact h.slots i c' v h1⟩
theorem N9 {P:Program} {r:Option Nat} {Q:Exit->Act->World->Prop} {N:Nat} {ds:List Deferred} {ops rest:List Oper} {E:Env} {w:World} (h:TW P r Q N ds ops rest (PF.sure E) w):TW P r Q N ds ops rest E w:=fun a ha=>h a ha.sure
end Go.PF
namespace Go.PF
open Go.RowKit
theorem GB.refl {o:Option Nat} (w:World):w.grownBy w o:=⟨rfl,rfl,rfl,ZC,fun _ _ _=>rfl⟩
theorem GB.trans {o:Option Nat} {a b c:World} (h:a.grownBy b o) (k:b.grownBy c o):a.grownBy c o :=
 ⟨k.os.trans h.os,k.tape.trans h.tape,k.output.trans h.output,Nat.le_trans h.size k.size,fun i hi hn=>(k.block i (Nat.lt_of_lt_of_le hi h.size) hn).trans (h.block i hi hn)⟩
theorem GB.of_below {o:Option Nat} {w w':World} (h:Below w.heap.size w w'):w.grownBy w' o:=⟨h.os,h.tape,h.output,h.size,fun k hk _=>h.block k hk⟩
theorem GB.cell {o:Option Nat} {w w':World} {ad:Addr} {v:Value} (h:w.grownBy w' o) (hc:w.cell? ad=some v) (hne:o≠some ad.block):w'.cell? ad=some v :=
 (World.cell?_of_block (h.block _ (block_lt_of_cell hc) (fun e=>hne e.symm))).trans hc
theorem GB.blk {o:Option Nat} {k:Nat} {w w':World} {t:TypeId} {cs:List Value} (h:w.grownBy w' o) (hB:Blk w k t cs) (hne:o≠some k):Blk w' k t cs:=(h.block k hB.lt (fun e=>hne e.symm)).trans hB
theorem Gv {κ:Type} {M:List (κ×Value)} (h:M.Pairwise fun p q=>p.1≠q.1) {r:κ} {v v':Value} (h1:(r,v)∈M) (h2:(r,v')∈M):v=v':=by
 obtain ⟨i,hi,e1⟩:=List.getElem_of_mem h1;obtain ⟨j,hj,e2⟩:=List.getElem_of_mem h2;have hp:=List.pairwise_iff_getElem.1 h;rcases Nat.lt_trichotomy i j with q|q|q
 ·have:=hp i j hi hj q;rw [e1,e2] at this;exact absurd rfl this
 ·subst q;rw [e1] at e2;simp only [Prod.mk.injEq] at e2;exact e2.2
 ·have:=hp j i hj hi q;rw [e1,e2] at this;exact absurd rfl this
def Cc (d:Nat) (p:Oper):Bool:=match p.dst with
 | some x=>Nat.beq x d
 | none=>false
def K8 (w0:World) (o:Option Nat) (d:Nat):Disc w0 where
 rel:=fun w=>w0.grownBy w o
 tok:=Cc d
 lock:=fun w=> ∀k,o=some k->k<w0.heap.size->w.heap[k]?=w0.heap[k]?
 still:=fun w w'=>Below w.heap.size w w'
 lock_still:=fun w w' hs hl k hk hlt=>by
  have h:=hl k hk hlt
  have hk':k<w.heap.size:=by
   rw [Array.getElem?_eq_getElem hlt] at h
   exact (Array.getElem?_eq_some_iff.1 h).1
  exact (hs.block k hk').trans h
 still_refl:=fun w=>Below.refl _ w
 fin:=fun _=>True
 fin_still:=fun _ _ _ h=>h
 good:=fun b e=> ∀v w w',w0.grownBy w o->w.grownBy w' o->(b=true->Below w.heap.size w w')->e.sat v w->e.sat v w'
 foot:=fun _ _ _=>False
 step:=fun w w' _=>w.grownBy w' o
 foot_ex:=fun _ _ _ h=>h
 step_refl:=fun w _=>GB.refl w
 rel_step:=fun w w' _ hr h=>hr.trans h
 keep:=fun _ e hg v w w' _ hr hs hb _ h=>hg v w w' hr hs hb h
 bound:=fun _ _ _ _ _ _ _ h=>h.elim
 inv:=fun _=>True
 inv_step:=fun _ _ _ _ _=>trivial
section
variable {P:Program} {r:Option Nat} {Q:Exit->Act->World->Prop} {N:Nat} {ds:List Deferred} {ops rest:List Oper} {D:DE} {w:World} {o:Option Nat} {tk:Nat} {G:Option Bool} {Fin:DE->Prop}
def DR (P:Program) (N:Nat) (ds:List Deferred) (ops:List Oper) (w0:World) (o:Option Nat) (tk:Nat) (Fin:DE->Prop):List Oper->DE->Prop
 | [],D=>Fin D
 | p::rest,D=> ∃G e,uN P N ds ops (K8 w0 o tk) p D G e []/\DR P N ds ops w0 o tk Fin rest (dM D p.dst G e)
theorem BV: ∀ {rest:List Oper} {D:DE},DR P N ds ops w o tk Fin rest D ->
  ∃ ges:List Lay,ges.length=rest.length/\Fin (gz D rest ges) /\
   ∀ i p G e s,rest[i]?=some p->ges[i]?=some (G,e,s)->uN P N ds ops (K8 w o tk) p (gz D (rest.take i) (ges.take i)) G e s
 | [],D,h=>⟨[],rfl,h,fun i p G e s h1 _=>by simp at h1⟩
 | p::rest,D,h=>by
  obtain ⟨G,e,h1,h2⟩:=h;rw [<-iC D] at h2;obtain ⟨ges,hl,hF,hi⟩:=BV h2;refine ⟨(G,e,[])::ges,by simp [hl],hF,?_⟩;intro i p' G' e' s' ho he
  cases i with
  | zero =>
   simp at ho he;obtain ⟨rfl,rfl,rfl⟩:=he;subst ho
   simpa [gz] using h1
  | succ i =>
   simp at ho he;simpa [gz] using hi i p' G' e' s' ho he
theorem O7 (h:Fin D):DR P N ds ops w o tk Fin [] D:=h
theorem nH {p:Oper} {v:Value} (hg:iY ops D p.guard=some G) (hd:be N p.dst=true) (hn:eD p.op=true)
  (hrun:aV G-> ∀a w',w.grownBy w' o->FitL N ds (p.looksAt ops.toArray) D a w'->(execOp a.eval p).run P w'= .ok (.value v) w') (next:DR P N ds ops w o tk Fin rest (dM D p.dst G (.ex v))):DR P N ds ops w o tk Fin (p::rest) D :=
 ⟨G,.ex v,⟨hg,hd,hn,fun _ _ _ _ _ _ h=>h,rfl,fun s hs=>by simp at hs,fun hG a w' hr _ ha=> .inl ⟨v,w',.inl (hrun hG a w' hr ha),GB.refl _,⟨fun _=>ZA,fun _=>trivial⟩,rfl,fun _ h=>h.elim⟩⟩,next⟩
variable {d:Option Tmp} {ty:TypeId} {pos:String} {af:Array Edge} {gu:Option (Nat×Bool)} {x y z:Operand} {cx cy cz:Option Bool}
theorem Ob {vx:Value} (hg:iY ops D gu=some G) (hd:be N d=true) (hx:dev D x=some (cx,.ex vx)) (ix:aV G->aV cx)
  (next:DR P N ds ops w o tk Fin rest (dM D d G (.ex vx))):DR P N ds ops w o tk Fin (⟨d,.move x,ty,pos,af,gu⟩::rest) D :=
 nH hg hd rfl (fun hG _ _ _ ha=>ny (ha.eval (o:=⟨d,.move x,ty,pos,af,gu⟩) hx (by simp [Op.operands,Call.operands]) (ix hG))) next
theorem KR {ad:Addr} (hg:iY ops D gu=some G) (hd:be N d=true) (hx:dev D x=some (cx,.ex (.pointer (some ad)))) (ix:aV G->aV cx)
  (next:DR P N ds ops w o tk Fin rest (dM D d G (.ex (.pointer (some ad))))):DR P N ds ops w o tk Fin (⟨d,.nilCheck x,ty,pos,af,gu⟩::rest) D :=
 nH hg hd rfl (fun hG _ _ _ ha=>BH (ha.eval (o:=⟨d,.nilCheck x,ty,pos,af,gu⟩) hx (by simp [Op.operands,Call.operands]) (ix hG))) next
theorem Kj {ad:Addr} {off fi:Nat} {t:TypeId} (hg:iY ops D gu=some G) (hd:be N d=true) (hf:ky P t fi=some off) (hx:dev D x=some (cx,.ex (.pointer (some ad)))) (ix:aV G->aV cx)
  (next:DR P N ds ops w o tk Fin rest (dM D d G (.ex (.pointer (some (ad.add off)))))):DR P N ds ops w o tk Fin (⟨d,.fieldAddr t x fi,ty,pos,af,gu⟩::rest) D :=
 nH hg hd rfl (fun hG _ _ _ ha=>rQ hf (ha.eval (o:=⟨d,.fieldAddr t x fi,ty,pos,af,gu⟩) hx (by simp [Op.operands,Call.operands]) (ix hG))) next
theorem Oc {t:TypeId} {ad:Addr} {v:Value} (hg:iY ops D gu=some G) (hd:be N d=true) (h1:one P t=true) (hx:dev D x=some (cx,.ex (.pointer (some ad)))) (ix:aV G->aV cx) (hc:aV G->w.cell? ad=some v/\o≠some ad.block)
  (next:DR P N ds ops w o tk Fin rest (dM D d G (.ex v))):DR P N ds ops w o tk Fin (⟨d,.load t x,ty,pos,af,gu⟩::rest) D :=
 nH hg hd rfl (fun hG _ _ hr ha=>xu h1 (ha.eval (o:=⟨d,.load t x,ty,pos,af,gu⟩) hx (by simp [Op.operands]) (ix hG)) (GB.cell hr (hc hG).1 (hc hG).2)) next
theorem MG {κ:Type} {kt:TypeId} (K:GKey P kt κ) {t et:TypeId} {zv v:Value} {b:Nat} {m:List (κ×Value)} (k:κ) (hg:iY ops D gu=some none) (hd:be N d=true) (ht:P.underlying t=some (.map kt et)) (hz:(P.info? et).bind (·.zero)=some zv)
  (hx:dev D x=some (none,.ex (.map (some b)))) (hy:dev D y=some (none,.ex (K.enc k))) (hm:MapL K w b m) (hne:o≠some b) (hv:(k,v)∈m∨((∀p∈m,p.1≠k)/\v=zv))
  (next:DR P N ds ops w o tk Fin rest (dM D d none (.ex v))):DR P N ds ops w o tk Fin (⟨d,.lookup t x y false,ty,pos,af,gu⟩::rest) D:=by
 refine nH hg hd rfl (fun _ a w' hr ha=> ?_) next
 obtain ⟨u,hu,hrun⟩:=ru K ht hz (hm.kept (hr.block b hm.lt (fun e=>hne e.symm))) k false;simp only [execOp];rw [ha.eval (o:=⟨d,.lookup t x y false,ty,pos,af,gu⟩) hx (by simp [Op.operands]) trivial,ha.eval (o:=⟨d,.lookup t x y false,ty,pos,af,gu⟩) hy (by simp [Op.operands]) trivial];have hv':u.getD zv=v:=by
  cases u with
  | none =>
   rcases hv with h|⟨_,h⟩
   ·exact absurd rfl (hu _ h)
   ·exact h.symm
  | some u' =>
   rcases hv with h|⟨h,_⟩
   ·exact Gv hm.once hu h
   ·exact absurd rfl (h _ hu)
 simp [hrun,hv']
def IG (w0:World) (e:TypeId) (len:Nat) (cs:List Value) (v:Value) (w:World):Prop:= ∃g,v= .slice (some ⟨g,0,none⟩) len len/\Blk w g e cs/\w0.heap.size<=g
theorem I4 {t:TypeId} (e:TypeId) {sz len:Nat} {parts:Array (Nat×Operand)} (xs:List Operand) {vs cs:List Value} (ho: ∀k,o=some k->k<w.heap.size) (hg:iY ops D gu=some none) (hd:be N d=true) (hp:parts.toList=number xs) (he:dA P t e sz=true)
  (hx:DArgs (Oper.looksAt ops.toArray ⟨d,.buildSlice t len parts,ty,pos,af,gu⟩) N ds D none xs vs) (hl:len=vs.length)
  (hv:vs.all (fun v=>Nat.beq v.cells.size sz)=true) (hsm:Nat.ble (vs.length*sz) 16777216=true) (hpos:Nat.blt 0 vs.length=true) (hcs:vs.flatMap (fun v=>v.cells.toList)=cs)
  (next:DR P N ds ops w o tk Fin rest (dM D d none (.pr (IG w e len cs)))):DR P N ds ops w o tk Fin (⟨d,.buildSlice t len parts,ty,pos,af,gu⟩::rest) D:=by
 subst hl;have hv': ∀v∈vs,v.cells.size=sz:=fun v hm=>Nat.eq_of_beq_eq_true (List.all_eq_true.1 hv v hm);refine ⟨none,.pr (IG w e vs.length cs),⟨hg,hd,rfl,fun v w1 w2 hr hs _ ⟨g,h1,h2,h3⟩=>⟨g,h1,GB.blk hs h2 (fun e=>by have:=ho _ e; omega),h3⟩,rfl,fun s hs=>by simp at hs,fun hG a w' hr _ ha=> .inl ?_⟩,next⟩;refine ⟨_,_,.inl (iO hp rfl he (hx (fun t ht=>dP ?_) a w' ha hG) hv' (Nat.le_of_ble_eq_true hsm) (blt_iff.1 hpos)),GB.of_below ((ZA).alloc ZC _),⟨fun _=>(ZA).alloc ZC _,fun _=>trivial⟩,⟨w'.heap.size,rfl,?_,hr.size⟩,fun _ h=>h.elim⟩
 ·simp only [Op.operands];rw [hp];simp only [number,List.map_map];rw [List.mem_map];obtain ⟨j,hj,he⟩:=List.getElem_of_mem ht;exact ⟨(Operand.tmp t,j),by rw [List.mem_zipIdx_iff_getElem?]; simp [he.symm],rfl⟩
 ·rw [hcs]; exact Blk.new w' e cs
def NU (w0:World) (o:Option Nat) (e:TypeId) (sz n:Nat) (xs:List Value) (v:Value) (w:World):Prop:=OwnS w e sz v n xs/\(v.ownBlock=o∨ ∃g,v.ownBlock=some g/\w0.heap.size<=g)
theorem MO {t e:TypeId} {sz bytes n m:Nat} {s:Operand} {v:Value} {xs:List Value} (news:List Value) (hdt:d=some tk) (hg:iY ops D gu=some none) (hd:be N d=true) (hog:eZ P t e sz bytes=true)
  (hs:dev D s=some (none,.ex v)) (hown:OwnS w e sz v n xs) (hvo:v.ownBlock=o) (hx:dev D x=some (none,.pr (IG w e m news))) (hl:news.length=m*sz) (h1: ∀u∈news,u.oneCell'=true)
  (hb:(n+m)*bytes<=140737488355328) (hb0:1<=bytes)
  (next:DR P N ds ops w o tk Fin rest (dM D d none (.pr (NU w o e sz (n+m) (xs++news))))) :
  DR P N ds ops w o tk Fin (⟨d,.call ⟨.builtin .append,#[s,x],#[t,t]⟩,ty,pos,af,gu⟩::rest) D:=by
 have htok:Cc tk ⟨d,.call ⟨.builtin .append,#[s,x],#[t,t]⟩,ty,pos,af,gu⟩=true:=by subst hdt; simp [Cc]
 refine ⟨none,.pr (NU w o e sz (n+m) (xs++news)),⟨hg,hd,rfl,fun u w1 w2 hr hs hbt ⟨h1,h2⟩=> ?_,rfl,fun s hs=>by simp at hs,fun hG a w' hr hlk ha=> .inl ?_⟩,next⟩
 ·have hbt:=hbt htok;exact ⟨h1.below hbt,h2⟩
 ·have hlk:=hlk htok;have hown':OwnS w' e sz v n xs:=hown.kept fun g hg=>hlk g (hvo ▸ hg) (hown.lt hg);obtain ⟨g,hgv,hgB,hgl⟩:=ha.evalP (o:=⟨d,.call ⟨.builtin .append,#[s,x],#[t,t]⟩,ty,pos,af,gu⟩) hx (by simp [Op.operands,Call.operands]) trivial;obtain ⟨v',w'',a1,a2,a3,a5⟩:=o9 (P:=P) (ty:=ty) (c:=m) (A:=some ⟨g,0,none⟩) hog hown' hl (fun j u hj=>⟨_,rfl,hgB.fld hj⟩) h1 hb hb0;refine ⟨v',w'',.inl ?_,hvo ▸ a3,⟨fun h=> ?_,fun _=>trivial⟩,⟨a2,?_⟩,fun _ h=>h.elim⟩
  ·simp only [execOp,resolve,invoke,builtin,Sem.run_bind,Sem.run_pure,Result.andThen_ok,List.map_toArray,List.map_cons,List.map_nil];rw [ha.eval (o:=⟨d,.call ⟨.builtin .append,#[s,x],#[t,t]⟩,ty,pos,af,gu⟩) hs (by simp [Op.operands,Call.operands]) trivial,hgv];rw [a1];rfl
  ·rw [show (K8 w o tk).tok=Cc tk from rfl,htok] at h;cases h
  ·rcases a5 with h|h
   ·exact .inl (h.trans hvo)
   ·exact .inr ⟨_,h,hr.size⟩
theorem Od {K:Act->World->Prop} (ks:List Nat) (E:Env) (hE:oG D ks=some E) (is:List Nat) {es:List Ent} (hp:Bp D is=some es) (h: ∀vs w',w.grownBy w' o->Sats es vs w'->KW N ds K (E++zO is vs) w') :
  ∀ a w',w.grownBy w' o->FitD N ds D a w'->K a w' :=
 fun a w' hb ha=>h _ w' hb (ha.sel hp) a ⟨ha.size,ha.defers,fun i c v hl=>(tQ hl).elim ((ha.pick hE).slots i c v) ((ha.zip is).slots i c v)⟩
end
end Go.PF
namespace Go.PF
open Go.RowKit
section
variable {P:Program} {N:Nat} {ds:List Deferred} {ops rest:List Oper} {D:DE} {w:World} {G:Option Bool} {Fin:DE->Prop} {d:Option Tmp} {ty:TypeId} {pos:String} {af:Array Edge} {gu:Option (Nat×Bool)} {x y z:Operand} {cx cy cz:Option Bool}
variable {o:Option Nat} {tk:Nat}
theorem O8 {m n:Int} {t t':TypeId} (hg:iY ops D gu=some G) (hd:be N d=true) (hx:dev D x=some (cx,.ex (.int .i64 m))) (ix:aV G->aV cx) (hy:dev D y=some (cy,.ex (.int .i64 n))) (iy:aV G->aV cy) (hb:aV G-> -9223372036854775808<=m+n/\m+n<=9223372036854775807)
  (next:DR P N ds ops w o tk Fin rest (dM D d G (.ex (.int .i64 (m+n))))):DR P N ds ops w o tk Fin (⟨d,.binOp .add t x y t',ty,pos,af,gu⟩::rest) D :=
 nH hg hd rfl (fun hG _ _ _ ha=>wm (ha.eval (o:=⟨d,.binOp .add t x y t',ty,pos,af,gu⟩) hx (by simp [Op.operands,Call.operands]) (ix hG)) (ha.eval (o:=⟨d,.binOp .add t x y t',ty,pos,af,gu⟩) hy (by simp [Op.operands,Call.operands]) (iy hG)) (hb hG)) next
theorem O6 {m n:Int} {t t':TypeId} (hg:iY ops D gu=some G) (hd:be N d=true) (hx:dev D x=some (cx,.ex (.int .i64 m))) (ix:aV G->aV cx) (hy:dev D y=some (cy,.ex (.int .i64 n))) (iy:aV G->aV cy) (hb:aV G-> -9223372036854775808<=m-n/\m-n<=9223372036854775807)
  (next:DR P N ds ops w o tk Fin rest (dM D d G (.ex (.int .i64 (m-n))))):DR P N ds ops w o tk Fin (⟨d,.binOp .sub t x y t',ty,pos,af,gu⟩::rest) D :=
 nH hg hd rfl (fun hG _ _ _ ha=>Io (ha.eval (o:=⟨d,.binOp .sub t x y t',ty,pos,af,gu⟩) hx (by simp [Op.operands,Call.operands]) (ix hG)) (ha.eval (o:=⟨d,.binOp .sub t x y t',ty,pos,af,gu⟩) hy (by simp [Op.operands,Call.operands]) (iy hG)) (hb hG)) next
theorem Ki {ad:Addr} {l c sz:Nat} {t e:TypeId} {k:IntKind} {i:Int} (hg:iY ops D gu=some G) (hd:be N d=true) (ht:P.underlying t=some (.slice e)) (hs:(P.info? e).map (·.size)=some sz) (hx:dev D x=some (cx,.ex (.slice (some ad) l c))) (ix:aV G->aV cx) (hy:dev D y=some (cy,.ex (.int k i))) (iy:aV G->aV cy) (hi:aV G->0<=i/\i<(l:Int))
  (next:DR P N ds ops w o tk Fin rest (dM D d G (.ex (.pointer (some (ad.add (i.toNat*sz))))))):DR P N ds ops w o tk Fin (⟨d,.indexAddr t x y,ty,pos,af,gu⟩::rest) D :=
 nH hg hd rfl (fun hG _ _ _ ha=>nz ht hs (ha.eval (o:=⟨d,.indexAddr t x y,ty,pos,af,gu⟩) hx (by simp [Op.operands,Call.operands]) (ix hG)) (ha.eval (o:=⟨d,.indexAddr t x y,ty,pos,af,gu⟩) hy (by simp [Op.operands,Call.operands]) (iy hG)) (hi hG)) next
theorem Oe {r:Option Nat} {Q:Exit->Act->World->Prop} {c y:Code} {E:Env} (E':Env) (J:World->Prop) (hx:(∀W,J W->CW P r Q N ds y E' W)->CW P r (Exit.then (y.wpIn (FR r) 0 P Q) Q) N ds c E w) (hy: ∀W,J W->CW P r Q N ds y E' W):CW P r (Exit.then (y.wpIn (FR r) 0 P Q) Q) N ds c E w:=hx hy
theorem zN {α:Type} {r:Option Nat} {Q:Exit->Act->World->Prop} {c y:Code} {E:Env} (E':α->Env) (J:α->World->Prop) (hx:(∀x W,J x W->CW P r Q N ds y (E' x) W)->CW P r (Exit.then (y.wpIn (FR r) 0 P Q) Q) N ds c E w) (hy: ∀x W,J x W->CW P r Q N ds y (E' x) W):CW P r (Exit.then (y.wpIn (FR r) 0 P Q) Q) N ds c E w:=hx hy
end
end Go.PF
namespace Go.PF
open Go.RowKit
def D6 (p:Oper):Bool:=match p.op with
 | .store .. =>true
 | _=>false
def Ky (l:List Oper):Bool:=Nat.ble (l.filter D6).length 1&&l.any fun p=>D6 p&&p.guard.isNone
def wD (w0:World) (g:Nat) (t:TypeId) (cs:List Value):Disc w0 where
 rel:=fun w=>w0.grownBy w (some g)
 tok:=D6
 lock:=fun w=>g<w0.heap.size->w.heap[g]?=w0.heap[g]?
 still:=fun w w'=>Below w.heap.size w w'
 lock_still:=fun w w' hs hl hlt=>by
  have h:=hl hlt
  have hk':g<w.heap.size:=by
   rw [Array.getElem?_eq_getElem hlt] at h
   exact (Array.getElem?_eq_some_iff.1 h).1
  exact (hs.block g hk').trans h
 still_refl:=fun w=>Below.refl _ w
 fin:=fun w=>Blk w g t cs
 fin_still:=fun w w' hb h=>h.next hb
 good:=fun _ e=> ∀v w w',w0.grownBy w (some g)->w.grownBy w' (some g)->e.sat v w->e.sat v w'
 foot:=fun _ _ _=>False
 step:=fun w w' _=>w.grownBy w' (some g)
 foot_ex:=fun _ _ _ h=>h
 step_refl:=fun w _=>GB.refl w
 rel_step:=fun w w' _ hr h=>hr.trans h
 keep:=fun _ e hg v w w' _ hr hs _ _ h=>hg v w w' hr hs h
 bound:=fun _ _ _ _ _ _ _ h=>h.elim
 inv:=fun _=>True
 inv_step:=fun _ _ _ _ _=>trivial
section
variable {P:Program} {r:Option Nat} {Q:Exit->Act->World->Prop} {N:Nat} {ds:List Deferred} {ops rest:List Oper} {D:DE} {w:World} {g:Nat} {bt:TypeId} {cs:List Value} {G:Option Bool} {Fin:DE->Prop}
def DS (P:Program) (N:Nat) (ds:List Deferred) (ops:List Oper) (w0:World) (g:Nat) (bt:TypeId) (cs:List Value) (Fin:DE->Prop):List Oper->DE->Prop
 | [],D=>Fin D
 | p::rest,D=> ∃G e,uN P N ds ops (wD w0 g bt cs) p D G e []/\DS P N ds ops w0 g bt cs Fin rest (dM D p.dst G e)
theorem DS.entries: ∀ {rest:List Oper} {D:DE},DS P N ds ops w g bt cs Fin rest D ->
  ∃ ges:List Lay,ges.length=rest.length/\Fin (gz D rest ges) /\
   ∀ i p G e s,rest[i]?=some p->ges[i]?=some (G,e,s)->uN P N ds ops (wD w g bt cs) p (gz D (rest.take i) (ges.take i)) G e s
 | [],D,h=>⟨[],rfl,h,fun i p G e s h1 _=>by simp at h1⟩
 | p::rest,D,h=>by
  obtain ⟨G,e,h1,h2⟩:=h;rw [<-iC D] at h2;obtain ⟨ges,hl,hF,hi⟩:=DS.entries h2;refine ⟨(G,e,[])::ges,by simp [hl],hF,?_⟩;intro i p' G' e' s' ho he
  cases i with
  | zero =>
   simp at ho he;obtain ⟨rfl,rfl,rfl⟩:=he;subst ho
   simpa [gz] using h1
  | succ i =>
   simp at ho he;simpa [gz] using hi i p' G' e' s' ho he
theorem qj {E:Env} {W:World} {s:Nat} (g:Nat) (bt:TypeId) (cs:List Value) (t:Nat) (hlex:mq ops=true) (hcut:rP ops s t=true) (hone:Ky (dX ops s t)=true) (hst:Nat.ble s t=true) (htl:Nat.ble t ops.length=true) (hb:Below w.heap.size w W)
  (h:DS P N ds ops w g bt cs (fun D=> ∀a w',w.grownBy w' (some g)->Blk w' g bt cs->FitD N ds D a w'->RK P r Q ops t a w') (dX ops s t) (lift E)):RW P r Q N ds ops s E W:=by
 have hst:=Nat.le_of_ble_eq_true hst;have htl:=Nat.le_of_ble_eq_true htl;intro a ha listed fuel hsz hls hfu;obtain ⟨ges,hl,hF,hstep⟩:=DS.entries h;have hl':ges.length=t-s:=by rw [hl]; unfold dX; simp; omega
 unfold Ky at hone;rw [Bool.and_eq_true] at hone;obtain ⟨hone1,hone2⟩:=hone;have hone1:=Nat.le_of_ble_eq_true hone1;have hgl: ∀ {j:Nat} {L:Lay},ges[j]?=some L->j<t-s:=fun hg=>by rw [<-hl']; exact (ZE hg).1
 refine um (N:=N) (ds:=ds) (w0:=w) (a0:=a) (D0:=lift E) (ges:=ges) (wD w g bt cs) hlex hcut hst htl hl' ?_ (fun i j p p' hil hjl hi hj h1 h2=> ?_) ?_ ?_ fuel listed a W hsz ?_ ?_
 ·intro i p G e E hi hg;have hil:i<t-s:=hgl hg;exact hstep i p G e E (by rw [gD,if_pos hil]; exact hi) hg
 ·exact kU (p:=D6) hone1 (by rw [gD,if_pos hil]; exact hi) h1 (by rw [gD,if_pos hjl]; exact hj) h2
 ·intro i c e he;rw [oV] at he
  cases hlk:look E i with
  | none=>rw [hlk] at he; cases he
  | some p =>
   rw [hlk] at he;simp only [Option.map_some,Option.some.injEq,Prod.mk.injEq] at he;obtain ⟨rfl,rfl⟩:=he;exact ⟨_,rfl,ha.slots i p.1 p.2 hlk⟩
 ·intro fuel listed a w' hsz hls hfu hb' _ hfin hfit;refine hF a w' hb' ?_ hfit listed fuel hsz hls hfu;obtain ⟨p,hp,hpt⟩:=List.any_eq_true.1 hone2;rw [Bool.and_eq_true] at hpt;obtain ⟨i,hi⟩:=List.mem_iff_getElem?.1 hp;have hit:i<t-s:=by
   rw [gD] at hi
   split at hi
   ·assumption
   ·cases hi
  have hi':=hi;rw [gD,if_pos hit] at hi';obtain ⟨G,e,E,hge⟩: ∃G e E,ges[i]?=some (G,e,E):=⟨_,_,_,ZD (by omega)⟩;refine hfin i p G e E hi' hge hpt.1 ?_;have hgd:=(hstep i p G e E hi hge).1;have hn:p.guard=none:=by simpa using hpt.2
  rw [hn] at hgd;cases hgd;trivial
 ·refine Nat.le_trans ?_ hfu;have:(List.range ops.length).filter (fun k=> !listed.getD k false)=(List.range ops.length).filter (fun k=>decide (s<=k)):=by
   refine List.filter_congr fun k hk=> ?_;rw [hls k (by simpa using hk)];by_cases h1:k<s<;>simp [h1]<;>omega
  rw [this,show ops.length=s+(ops.length-s) by omega,List.range_add,List.filter_append];simp;rw [List.filter_eq_nil_iff.2 (by intro x hx; simp at hx; simp; omega)];refine Nat.le_trans (Nat.add_le_add_left (List.length_filter_le _ _) _) ?_;simp
 ·have hnl: ∀k,s<=k->listed.getD k false=false:=by
   intro k hk;rcases ZI k ops.length with h|h
   ·rw [hls k h]; simp; omega
   ·simp [Array.getElem?_eq_none (show listed.size<=k by omega)]
  refine ⟨GB.of_below hb,fun k p _ _ _ _ hj=>hb.block _ hj,trivial,fun k p G e E _ _ _ hlk _=>(by rw [hnl _ (by omega)] at hlk; cases hlk),ha.size,ha.defers,fun k hk=>by rw [hls k (by omega)]; simp [hk],fun k hk=>hnl k (by omega),?_,?_,fun _ _ _ _ _ _ _=>rfl,fun _ _=>rfl,?_⟩
  ·intro k o d G e E hk _ _ hlk;rw [hnl _ (by omega)] at hlk; cases hlk
  ·intro k o d G e E k' o' d' G' e' E' hk _ _ hlk;rw [hnl _ (by omega)] at hlk; cases hlk
  ·intro k o hk hlk e he hbi;have hks:k<s:=by
    rcases ZI k s with h|h
    ·exact h
    ·rw [hnl k h] at hlk; cases hlk
   have hon:=(dZ hlex hk hk).1 e he hbi;rw [hls e.on (by omega)];simp; omega
theorem DS.nil (h:Fin D):DS P N ds ops w g bt cs Fin [] D:=h
theorem DS.val {p:Oper} {v:Value} (hns:D6 p=false) (hg:iY ops D p.guard=some G) (hd:be N p.dst=true) (hn:eD p.op=true)
  (hrun:aV G-> ∀a w',w.grownBy w' (some g)->FitL N ds (p.looksAt ops.toArray) D a w'->(execOp a.eval p).run P w'= .ok (.value v) w') (next:DS P N ds ops w g bt cs Fin rest (dM D p.dst G (.ex v))):DS P N ds ops w g bt cs Fin (p::rest) D :=
 ⟨G,.ex v,⟨hg,hd,hn,fun _ _ _ _ _ h=>h,rfl,fun s hs=>by simp at hs,fun hG a w' hr _ ha=> .inl ⟨v,w',.inl (hrun hG a w' hr ha),GB.refl _,⟨fun _=>ZA,fun h=>by rw [show (wD w g bt cs).tok p=D6 p from rfl,hns] at h; cases h⟩,rfl,fun _ h=>h.elim⟩⟩,next⟩
variable {d:Option Tmp} {ty:TypeId} {pos:String} {af:Array Edge} {gu:Option (Nat×Bool)} {x y z:Operand} {cx cy cz:Option Bool}
theorem DS.move {vx:Value} (hg:iY ops D gu=some G) (hd:be N d=true) (hx:dev D x=some (cx,.ex vx)) (ix:aV G->aV cx)
  (next:DS P N ds ops w g bt cs Fin rest (dM D d G (.ex vx))):DS P N ds ops w g bt cs Fin (⟨d,.move x,ty,pos,af,gu⟩::rest) D :=
 DS.val rfl hg hd rfl (fun hG _ _ _ ha=>ny (ha.eval (o:=⟨d,.move x,ty,pos,af,gu⟩) hx (by simp [Op.operands,Call.operands]) (ix hG))) next
theorem DS.fieldAddr {ad:Addr} {off fi:Nat} {t:TypeId} (hg:iY ops D gu=some G) (hd:be N d=true) (hf:ky P t fi=some off) (hx:dev D x=some (cx,.ex (.pointer (some ad)))) (ix:aV G->aV cx)
  (next:DS P N ds ops w g bt cs Fin rest (dM D d G (.ex (.pointer (some (ad.add off)))))):DS P N ds ops w g bt cs Fin (⟨d,.fieldAddr t x fi,ty,pos,af,gu⟩::rest) D :=
 DS.val rfl hg hd rfl (fun hG _ _ _ ha=>rQ hf (ha.eval (o:=⟨d,.fieldAddr t x fi,ty,pos,af,gu⟩) hx (by simp [Op.operands,Call.operands]) (ix hG))) next
theorem DS.load {t:TypeId} {ad:Addr} {v:Value} (hg:iY ops D gu=some G) (hd:be N d=true) (h1:one P t=true) (hx:dev D x=some (cx,.ex (.pointer (some ad)))) (ix:aV G->aV cx) (hc:aV G->w.cell? ad=some v/\ad.block≠g)
  (next:DS P N ds ops w g bt cs Fin rest (dM D d G (.ex v))):DS P N ds ops w g bt cs Fin (⟨d,.load t x,ty,pos,af,gu⟩::rest) D :=
 DS.val rfl hg hd rfl (fun hG _ _ hr ha=>xu h1 (ha.eval (o:=⟨d,.load t x,ty,pos,af,gu⟩) hx (by simp [Op.operands]) (ix hG)) (GB.cell hr (hc hG).1 (fun e=>(hc hG).2 (by cases e; rfl)))) next
theorem DS.add {m n:Int} {t t':TypeId} (hg:iY ops D gu=some G) (hd:be N d=true) (hx:dev D x=some (cx,.ex (.int .i64 m))) (ix:aV G->aV cx) (hy:dev D y=some (cy,.ex (.int .i64 n))) (iy:aV G->aV cy) (hb:aV G-> -9223372036854775808<=m+n/\m+n<=9223372036854775807)
  (next:DS P N ds ops w g bt cs Fin rest (dM D d G (.ex (.int .i64 (m+n))))):DS P N ds ops w g bt cs Fin (⟨d,.binOp .add t x y t',ty,pos,af,gu⟩::rest) D :=
 DS.val rfl hg hd rfl (fun hG _ _ _ ha=>wm (ha.eval (o:=⟨d,.binOp .add t x y t',ty,pos,af,gu⟩) hx (by simp [Op.operands,Call.operands]) (ix hG)) (ha.eval (o:=⟨d,.binOp .add t x y t',ty,pos,af,gu⟩) hy (by simp [Op.operands,Call.operands]) (iy hG)) (hb hG)) next
theorem DS.indexAddr {ad:Addr} {l c sz:Nat} {t e:TypeId} {k:IntKind} {i:Int} (hg:iY ops D gu=some G) (hd:be N d=true) (ht:P.underlying t=some (.slice e)) (hs:(P.info? e).map (·.size)=some sz) (hx:dev D x=some (cx,.ex (.slice (some ad) l c))) (ix:aV G->aV cx) (hy:dev D y=some (cy,.ex (.int k i))) (iy:aV G->aV cy) (hi:aV G->0<=i/\i<(l:Int))
  (next:DS P N ds ops w g bt cs Fin rest (dM D d G (.ex (.pointer (some (ad.add (i.toNat*sz))))))):DS P N ds ops w g bt cs Fin (⟨d,.indexAddr t x y,ty,pos,af,gu⟩::rest) D :=
 DS.val rfl hg hd rfl (fun hG _ _ _ ha=>nz ht hs (ha.eval (o:=⟨d,.indexAddr t x y,ty,pos,af,gu⟩) hx (by simp [Op.operands,Call.operands]) (ix hG)) (ha.eval (o:=⟨d,.indexAddr t x y,ty,pos,af,gu⟩) hy (by simp [Op.operands,Call.operands]) (iy hG)) (hi hG)) next
theorem DS.store {t:TypeId} {j:Nat} {cs0:List Value} {u:Value} (hgu:gu=none) (hs:(P.info? t).map (·.size)=some 1) (hx:dev D x=some (none,.ex (.pointer (some (Addr.add ⟨g,0,none⟩ j))))) (hy:dev D y=some (none,.ex u)) (hB:Blk w g bt cs0) (hj:j<cs0.length) (h1:u.oneCell'=true) (hcs:cs0.set j u=cs)
  (next:DS P N ds ops w g bt cs Fin rest D):DS P N ds ops w g bt cs Fin (⟨none,.store t x y,ty,pos,af,gu⟩::rest) D:=by
 subst hgu;refine ⟨none,.pr fun _ _=>True,⟨rfl,rfl,rfl,fun _ _ _ _ _ _=>trivial,rfl,fun s hs=>by simp at hs,fun hG a w' hr hlk ha=> .inl ?_⟩,next⟩;have hB':Blk w' g bt cs0:=(hlk rfl hB.lt).trans hB;refine ⟨undef,w'.setCell ⟨g,j,none⟩ u,.inr ⟨rfl,?_⟩,But.setCell,⟨fun h=>(by cases h),fun _=> ?_⟩,trivial,fun _ h=>h.elim⟩
 ·simp only [execOp];have hxe:=ha.eval (o:=⟨none,.store t x y,ty,pos,af,none⟩) hx (by simp [Op.operands]) trivial;have e:u.cells= #[u]:=by cases u<;>first|rfl|simp [Value.oneCell'] at h1
  have hc:w'.cell? (Addr.add ⟨g,0,none⟩ j)=_:=hB'.fld (ZD hj);rw [ja] at hxe hc;have hf:w'.frozen? ⟨g,j,none⟩=false:=hB'.frozen _;obtain ⟨ad,had⟩: ∃ad:Addr,ad=⟨g,j,none⟩:=⟨_,rfl⟩;rw [<-had] at hxe hc hf ⊢;rw [hxe,ha.eval (o:=⟨none,.store t x y,ty,pos,af,none⟩) hy (by simp [Op.operands]) trivial];simp [Instr.storeAt,Instr.sureAddr,storeVar,run_sizeOf hs,e,storeCells,run_store P w' ad u .plain h1,hc,hf,Addr.add]
 ·show Blk _ g bt cs;rw [<-hcs];exact hB'.set j u
theorem DS.fin {K:Act->World->Prop} (is:List Nat) (E:Env) (hp:oG D is=some E) (h: ∀w',w.grownBy w' (some g)->Blk w' g bt cs->KW N ds K E w'): ∀a w',w.grownBy w' (some g)->Blk w' g bt cs->FitD N ds D a w'->K a w' :=
 fun a w' hb hB ha=>h w' hb hB a (ha.pick hp)
end
end Go.PF
namespace Go.Proofs.YtobaafdejnimkaaGreatDoor
open Tryz
open Go.PF Go.RowKit Go.Ord
attribute [local irreducible] TW CW KW DW
variable {w:World} {n p q r s:Nat} {g:Int} {B A:Option Addr} {a b:Ev}
theorem DV:nE prog "postilion/order.window" 216 311:=fun _ _ _=>by kernel_rfl
theorem JF:nE prog "postilion/order.ends" 216 309:=fun _ _ _=>by kernel_rfl
theorem JE:nE prog "postilion/order.span" 216 310:=fun _ _ _=>by kernel_rfl
theorem GR:nE prog "postilion/order.write" 216 312:=fun _ _ _=>by kernel_rfl
theorem Blk.part {g:Nat} {t:TypeId} {cs:List Value} (h:Blk w g t cs) (k:Nat) (ds:List Value) (hk:(cs.drop k).take ds.length=ds): ∀j v,ds[j]?=some v->w.cell? ((Addr.add ⟨g,0,none⟩ k).add j)=some v:=fun j v hj=>by
 have hjl:=(ZE hj).1;have e:((cs.drop k).take ds.length)[j]?=some v:=by rw [hk]; exact hj
 rw [List.getElem?_take_of_lt hjl,List.getElem?_drop] at e;rw [Addr.add_add];exact h.fld e
def jV (n:Nat) (g:Int) (a b:Ev) (va vb:Value):List Value:= [.int .i64 (n:Int),.int .i64 ((n:Int)+1),.int .i64 g,.int .i64 a.office,.int .i64 a.low,.int .i64 a.high,va,.int .i64 b.office,.int .i64 b.low,.int .i64 b.high,vb]
theorem D5 (hg:0<=g/\g<=1000000):Gives prog 311 #[.agg (jV n g a b (.slice A p q) (.slice B r s)).toArray] w fun x w'=>Below w.heap.size w w'/\x= .tuple #[.int .i64 (jU a b g).low,.int .i64 (jU a b g).high]:=by
 refine gv (f:=311) ?_;refine ag ?_;refine aG rfl rfl rfl rfl ?_;rintro g1 w1 f1;refine ag ?_;refine aF rfl (Blk.part f1.blk 3 [.int .i64 a.office,.int .i64 a.low,.int .i64 a.high,.slice A p q] rfl) ?_;refine aA rfl (xm) ?_;rintro v2 w2 ⟨hb2,rfl⟩;have hB2:=f1.blk.next hb2;refine ag ?_;refine aF rfl (Blk.part hB2 7 [.int .i64 b.office,.int .i64 b.low,.int .i64 b.high,.slice B r s] rfl) ?_;refine aA rfl (xm) ?_;rintro v3 w3 ⟨hb3,rfl⟩;have hB3:=hB2.next hb3;have hl:0<=dF b/\dF b<=1000001:=by unfold dF; omega
 have hh: -1<=bM b/\bM b<=1000000:=by unfold bM; omega
 have hgc:w3.cell? ((Addr.add ⟨g1,0,none⟩ 0).add 2)=some (.int .i64 g):=by rw [Addr.add_add]; exact hB3.fld rfl
 refine ag ?_;refine bg mixed (by kernel_rfl) ?_;refine aZ ?_;refine aB rfl hgc ?_;refine aZ ?_;refine bL nA rfl ⟨ct,ct,trivial⟩ (fun _=>trivial) ?_;refine aZ ?_;refine aB rfl hgc ?_;refine aZ ?_;refine bL kD rfl ⟨ct,ct,trivial⟩ (fun _=>trivial) ?_;refine aZ ?_;refine bR [0,1,2,3,4,5,6,7] rfl fun w4 b4=> ?_;refine ag ?_;refine jH rfl ⟨((f1.below.step hb2).step hb3).step b4,rfl⟩
theorem JN:Gives prog 309 #[.agg (jV n g a b (.slice A p q) (.slice B r s)).toArray] w fun x w'=>Below w.heap.size w w'/\x= .tuple #[.int .i64 a.office,.int .i64 b.office]:=by
 refine gv (f:=309) ?_;refine ag ?_;refine aG rfl rfl rfl rfl ?_;rintro g1 w1 f1;refine ag ?_;refine aI [0,1,2,3] rfl ?_;refine bg mixed (by kernel_rfl) ?_;refine aZ ?_;have hc1:w1.cell? ((Addr.add ⟨g1,0,none⟩ 3).add 0)=some (.int .i64 a.office):=by rw [Addr.add_add]; exact f1.blk.fld rfl
 have hc2:w1.cell? ((Addr.add ⟨g1,0,none⟩ 7).add 0)=some (.int .i64 b.office):=by rw [Addr.add_add]; exact f1.blk.fld rfl
 refine aB rfl hc1 ?_;refine aZ ?_;refine aB rfl hc2 ?_;refine aZ ?_;refine bR [0,1,2,3] rfl fun w4 b4=> ?_;refine ag ?_;refine jH rfl ⟨f1.below.step b4,rfl⟩
theorem JM:Gives prog 310 #[.agg (jV n g a b (.slice A p q) (.slice B r s)).toArray] w fun x w'=>Below w.heap.size w w'/\x= .int .i64 g:=by
 refine gv (f:=310) ?_;refine ag ?_;refine aG rfl rfl rfl rfl ?_;rintro g1 w1 f1;refine ag ?_;have hc1:w1.cell? ((Addr.add ⟨g1,0,none⟩ 0).add 2)=some (.int .i64 g):=by rw [Addr.add_add]; exact f1.blk.fld rfl
 refine aj rfl hc1 ?_;refine ag ?_;refine aW rfl ⟨f1.below,rfl⟩
theorem G6 {m gt:Nat} {t:Int} (hn:n+1<m) (hm:m<=16) (hg:0<=g/\g<=1000000) (ht0: -1<=t) (ht1:t<=3000000) (ht:jG w gt m):Gives prog 312 #[.agg (jV n g a b (.slice A p q) (.slice B r s)).toArray,.slice (some ⟨gt,0,none⟩) m m,.int .i64 t] w fun _ w'=>But gt w w'/\jG w' gt m:=by
 obtain ⟨xs,hxl,hB⟩:=ht;refine gv (f:=312) ?_;refine ag ?_;refine aG rfl rfl rfl rfl ?_;rintro g1 w1 f1;refine ag ?_;refine dE mixed fun W1 hW1=> ?_;refine qj (gt) 3 ((xs.map (Value.int .i64)).set ((n:Int).toNat*1) (.int .i64 t)) 16 (by kernel_rfl) (by kernel_rfl) rfl rfl rfl hW1 ?_;refine DS.move rfl rfl rfl ct ?_;refine DS.fieldAddr rfl rfl if216_0.q rfl ct ?_;refine DS.fieldAddr rfl rfl if133_0.q rfl ct ?_;have hne:g1≠gt:=by
  have:=f1.at_;have:=hB.lt;omega
 have hc0:w1.cell? ((Addr.add ⟨g1,0,none⟩ 0).add 0)=some (.int .i64 (n:Int)):=by rw [Addr.add_add]; exact f1.blk.fld rfl
 have hc1:w1.cell? ((Addr.add ⟨g1,0,none⟩ 0).add 1)=some (.int .i64 ((n:Int)+1)):=by rw [Addr.add_add]; exact f1.blk.fld rfl
 have hc2:w1.cell? ((Addr.add ⟨g1,0,none⟩ 0).add 2)=some (.int .i64 g):=by rw [Addr.add_add]; exact f1.blk.fld rfl
 have hB1:=hB.next f1.below;refine DS.load rfl rfl io3.q rfl ct (fun _=>⟨hc0,hne⟩) ?_;refine DS.move rfl rfl rfl ct ?_;refine DS.fieldAddr rfl rfl if216_0.q rfl ct ?_;refine DS.fieldAddr rfl rfl if133_1.q rfl ct ?_;refine DS.load rfl rfl io3.q rfl ct (fun _=>⟨hc1,hne⟩) ?_;refine DS.move rfl rfl rfl ct ?_;refine DS.move rfl rfl rfl ct ?_;refine DS.fieldAddr rfl rfl if216_0.q rfl ct ?_;refine DS.fieldAddr rfl rfl if133_2.q rfl ct ?_;refine DS.load rfl rfl io3.q rfl ct (fun _=>⟨hc2,hne⟩) ?_;refine DS.add rfl rfl rfl ct rfl ct (fun _=>by (try dsimp only); omega) ?_;refine DS.indexAddr rfl rfl underlying32 is3.q rfl ct rfl ct (fun _=>by (try dsimp only); omega) ?_;refine DS.store rfl is3.q rfl rfl hB1 (by simp; omega) rfl rfl ?_;refine DS.nil (DS.fin [0,1,2,3,10,13,19] [(0,_,_),(1,_,_),(2,_,_),(3,_,_),(10,_,_),(13,_,_),(19,_,_)] rfl (fun w2 b2 hB2=>ek ?_));refine bV (by kernel_rfl) (by kernel_rfl) rfl ?_;refine aT dW rfl ⟨ct,ct,trivial⟩ (fun _=>by (try dsimp only); omega) ?_;refine bG (aS [0,1,2,3,19,21] [(0,_,_),(1,_,_),(2,_,_),(3,_,_),(19,_,_),(21,_,_)] rfl (dJ ?_));refine bV (by kernel_rfl) (by kernel_rfl) rfl ?_;refine bi rfl is3.q rfl rfl hB2 (by simp; omega) rfl ?_
 rintro w4 hB4 hbut4 hsz4;refine bG (aS [0,1,2,3] [(0,_,_),(1,_,_),(2,_,_),(3,_,_)] rfl (dJ ?_));refine ed rfl (aS [0,1,2,3] [(0,_,_),(1,_,_),(2,_,_),(3,_,_)] rfl ?_);refine ul results312 ⟨(But.of_below f1.below).trans (But.trans b2 hbut4),(xs.set n t).set (n+1) (t+g),by simp [hxl],?_⟩;have e1:(n:Int).toNat*1=n:=by omega
 have e2:((n:Int)+1).toNat*1=n+1:=by omega
 rw [e1,e2] at hB4;rw [List.map_set,List.map_set];exact hB4
theorem zU {m:Nat} (hn:n+1<m) (hm:m<=16) (hg:0<=g/\g<=1000000) (ha:0<=a.office) (hb:0<=b.office):UV m (.iface 216 (.agg (jV n g a b (.slice A p q) (.slice B r s)).toArray)) (jU a b g):=by
 refine ⟨_,_,_,_,_,_,rfl,DV,JF,JE,GR,fun w=>D5 hg,fun w=> ?_,fun w=>JM,fun w gt t h0 h1 ht=>G6 hn hm hg h0 h1 ht⟩;have h1:((a.office.toNat:Nat):Int)=a.office:=by omega
 have h2:((b.office.toNat:Nat):Int)=b.office:=by omega
 have:=JN (w:=w) (n:=n) (g:=g) (a:=a) (b:=b) (A:=A) (B:=B) (p:=p) (q:=q) (r:=r) (s:=s);show Gives _ _ _ _ fun y w'=>_/\y= .tuple #[.int .i64 ((a.office.toNat:Nat):Int),.int .i64 ((b.office.toNat:Nat):Int)];rw [h1,h2];exact this
structure LegAt (w:World) (ad:Addr) (n:Nat) (g:Int):Prop where
 c: ∀j u,[Value.int .i64 (n:Int),.int .i64 ((n:Int)+1),.int .i64 g][j]?=some u->w.cell? (ad.add j)=some u
theorem LegAt.below {w':World} {ad:Addr} (h:LegAt w ad n g) (hb:Below w.heap.size w w'):LegAt w' ad n g:=⟨fun j u hj=>(hb.cell (block_lt_of_cell (h.c j u hj))).trans (h.c j u hj)⟩
theorem LegAt.at0 {ad:Addr} (h:LegAt w ad n g): ∀j u,[Value.int .i64 (n:Int),.int .i64 ((n:Int)+1),.int .i64 g][j]?=some u->w.cell? ((ad.add (Int.toNat ((0:Nat):Int)*3)).add j)=some u:=fun j u hj=>by
 rw [Addr.add_add];have:Int.toNat ((0:Nat):Int)*3+j=j:=by simp
 rw [this];exact h.c j u hj
theorem EV {g g5 g6 i cap:Nat} {bs:List Bool} (hE:Blk w g 31 [.slice B n cap]) (hU:Blk w g6 134 [.slice (some ⟨g5,0,none⟩) n n]) (hb:Blk w g5 4 (bs.map Value.bool)) (hl:bs.length=n) (hn:n<=16) (hi:i<n) (h0:bs[i]?=some false) :
  Gives prog 152 #[.int .i64 (i:Int),.pointer (some ⟨g,0,none⟩),.pointer (some ⟨g6,0,none⟩)] w fun u w'=>But g5 w w'/\Blk w' g5 4 ((bs.set i true).map Value.bool)/\u= .bool true:=by
 refine gv (f:=152) ?_;refine ag ?_;have hc:w.cell? (Addr.add ⟨g5,0,none⟩ ((i:Int).toNat*1))=some (.bool false):=by
  rw [show (i:Int).toNat*1=i by omega];exact hb.fld (by rw [List.getElem?_map,h0]; rfl)
 refine aj rfl (hE.cell 0) ?_;refine ag ?_;refine aj rfl (hU.cell 0) ?_;refine ag ?_;refine aj rfl hc ?_;refine ag ?_;refine au rfl (fun hbad=> ?_) (fun hgood=> ?_)
 ·exfalso;simp at hbad;omega
 refine ag ?_;refine aj rfl (hU.cell 0) ?_;refine ag ?_;refine bi rfl is4.q rfl rfl hb (by simp; omega) rfl ?_;rintro w2 hB2 hbut2 hsz2;refine ag ?_;refine aW rfl ⟨hbut2,?_,rfl⟩;rw [show (i:Int).toNat*1=i by omega] at hB2;rw [List.map_set];exact hB2
theorem Gp {v u:Value} {d:bA} {l:List Ev} {la:Addr} {lc:Nat} {gp:Int} (hd:SD w v d) (hl:SE w u l) (hleg:LegAt w la n gp) (hn:l.length=n+2) (hgp:0<=gp/\gp<=1000000):Gives prog 79 #[v,u,.slice (some la) 1 lc] w fun x w'=>Below w.heap.size w w'/\x= .bool (dec (WfE d l)):=by
 obtain ⟨A,cap,rfl,hcap⟩:=hd.form;obtain ⟨B,lcap,rfl,hlcap⟩:=hl.form;have hmax:d.length<=9223372036854775807:=hd.len.2.2;have hlmax:l.length<=9223372036854775807:=hl.len.2.2;refine gv (f:=79) ?_;refine ag ?_;refine aG rfl rfl rfl rfl ?_;rintro g w1 f1;refine ag ?_;refine aA rfl (rO (aU hd f1.below)) ?_;rintro v2 w2 ⟨hb2,rfl⟩;have hB2:Below w.heap.size w w2:=f1.below.step hb2;have hblk:=f1.blk.next hb2;refine ag ?_;refine aj rfl (hblk.cell 0) ?_;refine ag ?_;refine au rfl (fun hbad=> ?_) (fun hgood=> ?_)
 ·refine ag ?_;refine aW rfl ⟨hB2,?_⟩;rw [az];intro h;simp [ay h.wd] at hbad;have:=h.few;omega
 have hwd:WfD d:=dec_iff.1 (by cases hq:dec (WfD d)<;>simp_all);have hfew:l.length<=16:=by
  simp [ay hwd] at hgood;omega
 refine ag ?_;refine aj rfl (hblk.cell 0) ?_;refine ag ?_;refine aJ [0,1,2,4,6,21,22] (fun k:Nat=> [(23,none,.int .i64 (k:Int))])
  (fun k W=>k<=l.length/\Below w.heap.size w W/\Blk W g 31 [.slice B l.length lcap]/\ ∀(i:Nat) (e:Ev),i<k->l[i]?=some e->EOK d e) (fun k=>l.length-k) 0 ⟨by omega,hB2,hblk,fun i e hi=>by omega⟩ ?_
 rintro k W ⟨hk,hB3,hblk3,heach⟩;refine ag ?_;refine ai rfl (fun hlt=> ?_) (fun hge=> ?_)
 ·have hkl:k<l.length:=by omega
  obtain ⟨e,he⟩: ∃e,l[k]?=some e:=⟨l[k],ZD hkl⟩;have hl3:=aY hl hB3;obtain ⟨ad,rfl⟩:=hl3.addr (by omega);obtain ⟨nv,hcells,i1,i2,i3,hneeds⟩:=SE.get hl3 he;obtain ⟨C,ncap,rfl,_⟩:=hneeds.form;refine ag ?_;refine aF rfl (hcells) ?_;refine aM rfl nY rfl is60.q rfl rfl ?_;rintro g4 w4 f4;refine ag ?_;refine aj rfl (f4.blk.fld rfl) ?_;refine ag ?_;refine aj rfl (f4.blk.fld rfl) ?_;refine ag ?_;refine aI [0,1,2,4,6,8,21,22,23,36] rfl ?_;refine au rfl (fun hbad2=> ?_) (fun hgood2=> ?_)
  ·refine ag ?_;refine aW rfl ⟨hB3.step f4.below,?_⟩;rw [az];intro h;have h1:=h.each e (ZF he);have:=h1.o1;have:=h1.o2;simp at hbad2;omega
  refine ag ?_;refine aC (k+1) ⟨by omega,hB3.step f4.below,hblk3.next f4.below,fun i e' hi he'=> ?_⟩;rcases ZI i k with h|h
  ·exact heach i e' h he'
  ·obtain rfl:i=k:=by omega
   rw [he] at he'; cases he';simp at hgood2;exact ⟨by omega,by omega⟩
 ·have hok:WfE d l:=⟨hwd,hfew,fun e he=>by
   obtain ⟨i,hi,he'⟩:=List.getElem_of_mem he;exact heach i e (by omega) (by rw [ZD hi,he'])⟩
  refine ag ?_;refine aj rfl (hblk3.cell 0) ?_;refine ag ?_;refine bI rfl rfl (dH rG I6 rfl) rfl rfl (by omega) (by omega) ?_;rintro g5 w5 f5;refine il rfl Kn rfl is134.q rfl ?_;rintro g6 w6 f6;refine ag ?_;refine aN rfl rfl (aa rfl ct (aa rfl ct ah)) ?_;refine ag ?_;have hB6:=(hB3.step f5.below).step f6.below;have hE6:=(hblk3.next f5.below).next f6.below;have hU6:=f6.blk;have hb6:Blk w6 g5 4 ((List.replicate l.length false).map Value.bool):=by
   rw [List.map_replicate];exact f5.blk.next f6.below
  have hg5:=f5.at_;have hg6:=f6.at_;have hW3:=hB3.size;have hE3:=hblk3.lt;have hl6:=hleg.below hB6;have hf5:=f5.size;have hf6:=f6.size;refine aJ [10,42,43] (fun k:Nat=> [(44,none,.int .i64 (k:Int))])
   (fun k W'=>k<=1/\Below w.heap.size w W'/\(k=0->W'=w6)) (fun k=>1-k) 0 ⟨ZB,hB6,fun _=>rfl⟩ ?_
  rintro k2 W' ⟨hk2,hBW,hW0⟩;refine ag ?_;refine aI [10,42,43,44,45] rfl ?_;refine ai rfl (fun hlt2=> ?_) (fun hge2=> ?_)
  ·have hk0:k2=0:=by omega
   subst hk0;have hw:=hW0 rfl;subst hw;refine ag ?_;refine aF rfl (hl6.at0) ?_;refine aM rfl xC rfl is133.q rfl rfl ?_;rintro g7 w7 f7;refine ag ?_;have hE7:=hE6.next f7.below;have hU7:=hU6.next f7.below;have hb7:=hb6.next f7.below;refine aj rfl (f7.blk.fld rfl) ?_;refine bK rfl rfl ie152.q rfl (aa rfl ct ah) (EV (i:=n) hE7 hU7 hb7 (by simp) hfew (by omega) (by rw [List.getElem?_replicate,if_pos (by omega)])) ?_;rintro y8 w8 ⟨hbut8,hb8,rfl⟩;have hg7:=f7.at_;have hE8:=But.blk hbut8 hE7 (by omega);have hU8:=But.blk hbut8 hU7 (by omega);have hL8:=But.blk (k:=g7) hbut8 f7.blk (by omega);refine aT wo rfl ⟨ct,trivial⟩ (fun _=>trivial) ?_;refine aT aX rfl ⟨ct,trivial⟩ (fun _=>trivial) ?_;refine bf rfl (by simp [aV]) ?_;refine aT aX rfl ⟨ct,trivial⟩ (fun _=>trivial) ?_;refine bf rfl (by simp [aV]) ?_;refine ag ?_;refine bf rfl (by simp [aV]) ?_;refine aj rfl (hL8.fld rfl) ?_;refine bf rfl (by simp [aV]) ?_;refine bK rfl rfl ie152.q rfl (aa rfl ct ah) (EV (i:=n+1) hE8 hU8 hb8 (by simp) hfew (by omega) (by rw [List.getElem?_set_ne (by omega),List.getElem?_replicate,if_pos (by omega)])) ?_;rintro y9 w9 ⟨hbut9,hb9,rfl⟩;have hL9:=But.blk (k:=g7) hbut9 hL8 (by omega);refine ag ?_
   refine aj rfl (hL9.fld rfl) ?_;refine ag ?_;refine aj rfl (hL9.fld rfl) ?_;refine ag ?_;refine aI [10,12,42,43,44,69] rfl ?_;have hBW7:=hBW.step f7.below;have hBW9:Below w.heap.size w w9:=hBW7.grown (But.trans hbut8 hbut9) hBW7.size (fun q hq=>by cases hq; omega);refine au rfl (fun hbad3=> ?_) (fun hgood3=> ?_)
   ·exfalso;simp at hbad3;omega
   refine ag ?_;refine aC 1 ⟨ZC,hBW9,fun h=>absurd h (by decide)⟩ (hm:=by decide)
  ·refine ag ?_;refine aW rfl ⟨hBW,by rw [ay hok]⟩
end Go.Proofs.YtobaafdejnimkaaGreatDoor
namespace Go.PF
open Go.RowKit
abbrev SI (w:World) (v:Value) (l:List Int):Prop:=SL bC (fun k=>k<w.heap.size) w v l
theorem bD {α:Type} {l:List α} {k:Nat} (h:k<l.length): ∃x,l[k]?=some x/\x∈l:=⟨l[k],ZD h,List.getElem_mem h⟩
theorem SL.getT {F:Nat->Prop} {w:World} {ad:Addr} {n cap:Nat} {l:List ByteArray} (h:SL strT F w (.slice (some ad) n cap) l) {i:Nat} {x:ByteArray} (hx:l[i]?=some x):w.cell? (ad.add ((i:Int).toNat*1))=some (.string x):=by
 obtain ⟨ad',cs,h1,_,⟨rfl,_⟩,hc⟩:=h.at hx;cases h1;have:=hc 0 (.string x) rfl;simpa [strT,Addr.add] using this
end Go.PF
namespace Go.Proofs.YtobaafdejnimkaaGreatDoor
open Tryz
open Go.PF Go.RowKit Go.Ord
attribute [local irreducible] TW CW KW DW
variable {w:World} {l:List Ev} {d:bA} {v dv:Value} {k:FuncId} {caps:List Value} {n:Nat} {a b:Ev} {L:List (List Int)}
theorem B8 {m k:Nat} (hm:m=n+2) (hk:k<m):(((List.replicate m false).set n true).set (n+1) true)[k]?=some (decide (n<=k)):=by
 rw [List.getElem?_set,List.getElem?_set,List.length_set,List.length_replicate,List.getElem?_replicate];by_cases h1:n+1=k
 ·rw [if_pos h1,if_pos (by omega),decide_eq_true (by omega)]
 ·rw [if_neg h1];by_cases h2:n=k
  ·rw [if_pos h2,if_pos (by omega),decide_eq_true (by omega)]
  ·rw [if_neg h2,if_pos hk,decide_eq_false (by omega)]
theorem E8 {u:Value} {rest:List Ev} {la:Addr} {lc:Nat} {gp:Int} (hd:SD w dv d) (hl:SE w u l) (hleg:LegAt w la n gp) (hle:l=rest++ [a,b]) (hn:rest.length=n) (hgp:0<=gp/\gp<=1000000) (hok:WfE d l):Gives prog 84 #[dv,u,.slice (some la) 1 lc] w fun x w'=>Below w.heap.size w w' /\
  ((x= .tuple #[.slice none 0 0,.bool false]/\(¬kS d a b gp∨ ∃u∈jU a b gp::rest.map gZ,u.high<u.low))∨ ∃v us,x= .tuple #[v,.bool true]/\SL (MH l.length) (fun k=>k<w'.heap.size) w' v us/\us.Perm (jU a b gp::rest.map gZ)/\kS d a b gp/\ ∀u∈us,u.low<=u.high):=by
 obtain ⟨A,cap,rfl,hcap⟩:=hd.form;obtain ⟨B,lcap,rfl,hlcap⟩:=hl.form;have h16:=hok.few;have hll:l.length=n+2:=by rw [hle,List.length_append,hn]; rfl
 have hla:l[n]?=some a:=by rw [hle,List.getElem?_append_right (by omega),hn]; simp
 have hlb:l[n+1]?=some b:=by rw [hle,List.getElem?_append_right (by omega),hn]; simp
 have hoa:=hok.each a (ZF hla);have hob:=hok.each b (ZF hlb);have a1:=hoa.o1;have a2:=hoa.o2;have b1:=hob.o1;have b2:=hob.o2;refine gv (f:=84) ?_;refine ag ?_;refine bI rfl rfl (dH rG I6 rfl) rfl rfl (by omega) (by omega) ?_;rintro g1 w1 f1;refine ag ?_;have hg1:=f1.at_;refine aJ [0,1,9,22,23] (fun x:Nat×Value×List (Value×U)=> [(8,none,x.2.1),(24,none,.int .i64 (x.1:Int))])
  (fun x W=>x.1<=1/\Below w.heap.size w W/\(x.1=0->W=w1/\x.2.1= .slice none 0 0)/\(x.1=1->kS d a b gp/\Blk W g1 4 ((((List.replicate l.length false).set n true).set (n+1) true).map Value.bool)/\OwnS W 159 1 x.2.1 1 (x.2.2.map (·.1))/\(∀g,x.2.1.ownBlock=some g->g1<g)/\Prs l.length x.2.2/\x.2.2.map (·.2)= [jU a b gp])) (fun x=>1-x.1) (0,.slice none 0 0,[]) ⟨ZB,f1.below,fun _=>⟨rfl,rfl⟩,fun h=>absurd h (by decide)⟩ ?_
 rintro ⟨k0,uv0,ps0⟩ W ⟨hk0,hBW,h0,h1⟩;dsimp only at hk0 h0 h1;refine ag ?_;refine ai rfl (fun hlt=> ?_) (fun hge=> ?_)
 ·have hk:k0=0:=by omega
  subst hk;obtain ⟨rfl,rfl⟩:=h0 rfl;have hl1:=hleg.below f1.below;have hd1:=aU hd f1.below;have hs1:=aY hl f1.below;obtain ⟨ad,rfl⟩:=hs1.addr (by omega);obtain ⟨da,rfl⟩:=hd1.addr (by omega);have hb1:Blk W g1 4 ((List.replicate l.length false).map Value.bool):=by
   rw [List.map_replicate];exact f1.blk
  refine ag ?_;refine aF rfl (hl1.at0) ?_;refine aM rfl xC rfl is133.q rfl rfl ?_;rintro g11 w2 f2;refine ag ?_;refine dE mixed fun W1 hW1=> ?_;refine qj (g1) 4 ((((List.replicate l.length false).map Value.bool)).set ((n:Int).toNat*1) (.bool true)) 8 (by kernel_rfl) (by kernel_rfl) rfl rfl rfl hW1 ?_;refine DS.move rfl rfl rfl ct ?_;refine DS.fieldAddr rfl rfl if133_0.q rfl ct ?_;have hne:g11≠g1:=by
   have:=f2.at_;have:=hb1.lt;omega
  have hb2:=hb1.next f2.below;refine DS.load rfl rfl io3.q rfl ct (fun _=>⟨f2.blk.fld rfl,hne⟩) ?_;refine DS.move rfl rfl rfl ct ?_;refine DS.fieldAddr rfl rfl if133_1.q rfl ct ?_;refine DS.load rfl rfl io3.q rfl ct (fun _=>⟨f2.blk.fld rfl,hne⟩) ?_;refine DS.indexAddr rfl rfl underlying134 is4.q rfl ct rfl ct (fun _=>by (try dsimp only); omega) ?_;refine DS.store rfl is4.q rfl rfl hb2 (by simp; omega) rfl rfl ?_;refine DS.nil (DS.fin [0,1,8,9,11,22,23,24,31,33] [(0,_,_),(1,_,_),(8,_,_),(9,_,_),(11,_,_),(22,_,_),(23,_,_),(24,_,_),(31,_,_),(33,_,_)] rfl (fun w3 b3 hB3=>ek ?_));refine bV (by kernel_rfl) (by kernel_rfl) rfl ?_;refine aT dW rfl ⟨ct,ct,trivial⟩ (fun _=>by (try dsimp only); omega) ?_;refine bG (aS [0,1,8,9,11,22,23,24,35] [(0,_,_),(1,_,_),(8,_,_),(9,_,_),(11,_,_),(22,_,_),(23,_,_),(24,_,_),(35,_,_)] rfl (dJ ?_));refine bV (by kernel_rfl) (by kernel_rfl) rfl ?_;refine bi rfl is4.q rfl rfl hB3 (by simp; omega) rfl ?_;rintro w4 hB4 hbut4 hsz4;have hbut:=But.trans b3 hbut4;refine bG (aS [0,1,8,9,11,22,23,24] [(0,_,_),(1,_,_),(8,_,_),(9,_,_),(11,_,_),(22,_,_),(23,_,_),(24,_,_)] rfl (dJ ?_))
  refine ed rfl (aS [0,1,8,9,11,22,23,24] [(0,_,_),(1,_,_),(8,_,_),(9,_,_),(11,_,_),(22,_,_),(23,_,_),(24,_,_)] rfl (aD ?_));refine cO ?_;refine bg mixed (by kernel_rfl) ?_;refine aZ ?_;have hw1s:=f1.size;have hB04:Below w.heap.size w w4:=(f1.below.step f2.below).grown hbut (f1.below.step f2.below).size (fun q hq=>by cases hq; omega);have hL4:=But.blk (k:=g11) hbut f2.blk hne;have hs4:=hl.below hB04;have hd4:=hd.below hB04;obtain ⟨nva,hca,ia1,ia2,ia3,hna⟩:=SE.get hs4 hla;obtain ⟨nvb,hcb,ib1,ib2,ib3,hnb⟩:=SE.get hs4 hlb;rw [show ((n+1:Nat):Int)=(n:Int)+1 by omega] at hcb;obtain ⟨Ca,nca,rfl,_⟩:=hna.form;obtain ⟨Cb,ncb,rfl,_⟩:=hnb.form;obtain ⟨row,hr⟩: ∃r,d[a.office.toNat]?=some r:=⟨_,ZD (by omega)⟩;obtain ⟨rv,hcell,hrow⟩:=hd4.row hr;obtain ⟨R1,rcap,rfl,_⟩:=hrow.form;have hrl:row.length=d.length:=hok.wd.row _ row hr;obtain ⟨ra,rfl⟩:=hrow.addr (by omega);obtain ⟨z,hz⟩: ∃z,row[b.office.toNat]?=some z:=⟨_,ZD (by omega)⟩;have hza:=gH hr hz;have hzc:=hrow.getI hz;simp only [Int.toNat_natCast] at hcell hzc;refine aB rfl (hL4.fld rfl) ?_;refine aZ ?_;refine aB rfl (hca 0 _ rfl) ?_;refine aZ ?_;refine aB rfl hcell ?_;refine aZ ?_;refine aB rfl (hL4.fld rfl) ?_;refine aZ ?_
  refine aB rfl (hcb 0 _ rfl) ?_;refine aZ ?_;refine aB rfl hzc ?_;refine aZ ?_;refine bR [0,1,8,9,11,12,22,23,24] rfl fun w5 b5=> ?_;refine ag ?_;have hL5:=hL4.next b5;refine aj rfl (hL5.fld rfl) ?_;refine ag ?_;refine aI [0,1,8,9,11,12,22,23,24,60] rfl ?_;have hB05:=hB04.step b5;refine au rfl (fun hbad=> ?_) (fun hgood=> ?_)
  ·refine ag ?_;refine jH rfl ⟨hB05,.inl ⟨rfl,.inl fun h=> ?_⟩⟩;have q1:=h.1;have q2:=h.2;rw [hza] at q1 q2;simp at hbad;omega
  have hlo:kS d a b gp:=by
   simp at hgood;exact ⟨by rw [hza]; omega,by rw [hza]; omega⟩
  have hca5: ∀j u,[Value.int .i64 a.office,.int .i64 a.low,.int .i64 a.high,.slice Ca a.needs.length nca][j]?=some u->w5.cell? ((ad.add ((n:Int).toNat*4)).add j)=some u:=fun j u hj=>(b5.cell (block_lt_of_cell (hca j u hj))).trans (hca j u hj);have hcb5: ∀j u,[Value.int .i64 b.office,.int .i64 b.low,.int .i64 b.high,.slice Cb b.needs.length ncb][j]?=some u->w5.cell? ((ad.add (((n:Int)+1).toNat*4)).add j)=some u:=fun j u hj=>(b5.cell (block_lt_of_cell (hcb j u hj))).trans (hcb j u hj);refine ag ?_;refine dE mixed fun W3 hb3=> ?_;refine dL .weak 15 (by kernel_rfl) (by kernel_rfl) rfl rfl hb3 ?_;refine aZ ?_;refine dx rfl (fun _ _ hv=>hL5.fld hv) ?_;refine aZ ?_;refine aB rfl (hL5.fld rfl) ?_;refine aZ ?_;refine dx rfl (hca5) ?_;refine aZ ?_;refine aB rfl (hL5.fld rfl) ?_;refine aZ ?_;refine dx rfl (hcb5) ?_;refine jA [0,1,2] [.tmp 62,.tmp 67,.tmp 72] (jV n gp a b (.slice Ca a.needs.length nca) (.slice Cb b.needs.length ncb)) rfl rfl rfl rfl (ax rfl ct (ax rfl ct (ax rfl ct aP))) (by kernel_rfl) ?_;refine bL (nC rfl) rfl ⟨ct,trivial⟩ (fun _=>trivial) ?_;refine cK 159 _ rfl rfl rfl H6 (ax rfl ct aP) rfl rfl rfl rfl rfl ?_
  refine dD (ii [0,1,8,9,11,12,22,23,24,61] [(0,_,_),(1,_,_),(8,_,_),(9,_,_),(11,_,_),(12,_,_),(22,_,_),(23,_,_),(24,_,_),(61,_,_)] rfl [75] rfl fun vs w6 b6 hs6=>ek ?_);obtain ⟨v75,rfl,h75⟩:=Sats.one hs6;obtain ⟨g6,rfl,hB6⟩:=h75;refine bV (by kernel_rfl) (by kernel_rfl) rfl ?_;refine aK [.iface 216 (.agg (jV n gp a b (.slice Ca a.needs.length nca) (.slice Cb b.needs.length ncb)).toArray)] rfl rfl Hl rfl (OwnS.nil _ _ _) rfl rfl (fun j v hj=>⟨⟨g6,0,none⟩,rfl,hB6.fld hj⟩) (fun v hv=>by simp at hv; subst hv; rfl) (by omega) (by omega) ?_;rintro uv' w7 hO7 hg7 hnew7;refine bG (aS [0,1,8,9,11,12,22,23,24,76] [(0,_,_),(1,_,_),(8,_,_),(9,_,_),(11,_,_),(12,_,_),(22,_,_),(23,_,_),(24,_,_),(76,_,_)] rfl (dJ ?_));refine bV (by kernel_rfl) (by kernel_rfl) rfl ?_;refine aT df rfl ⟨ct,trivial⟩ (fun _=>trivial) ?_;refine bG (aS [0,1,8,9,11,12,22,23,24] [(0,_,_),(1,_,_),(8,_,_),(9,_,_),(11,_,_),(12,_,_),(22,_,_),(23,_,_),(24,_,_)] rfl (dJ ?_));refine ed rfl (aS [0,1,8,9,11,12,22,23,24] [(0,_,_),(1,_,_),(8,_,_),(9,_,_),(11,_,_),(12,_,_),(22,_,_),(23,_,_),(24,_,_)] rfl (bP (aD ?_)));refine ag ?_;have hB06:=hB05.step b6
  have hbl:Blk w6 g1 4 ((((List.replicate l.length false).set n true).set (n+1) true).map Value.bool):=by
   have e1:(n:Int).toNat*1=n:=by omega
   have e2:((n:Int)+1).toNat*1=n+1:=by omega
   rw [e1,e2] at hB4;rw [List.map_set,List.map_set];exact (hB4.next b5).next b6
  have hg1l:=hbl.lt;refine aC (1,uv',[(.iface 216 (.agg (jV n gp a b (.slice Ca a.needs.length nca) (.slice Cb b.needs.length ncb)).toArray),jU a b gp)]) ⟨ZC,hB06.grown hg7 hB06.size (fun q hq=>by simp [Value.ownBlock] at hq),fun h=>absurd (show (1:Nat)=0 from h) (by decide),fun _=>⟨hlo,GB.blk hg7 hbl (fun e=>by simp [Value.ownBlock] at e),hO7,fun q hq=> ?_,fun p hp=> ?_,rfl⟩⟩ (hm:=by show 1-1<1-0; decide)
  ·rcases hnew7 with h|h
   ·rw [h] at hq; simp [Value.ownBlock] at hq
   ·rw [h] at hq; cases hq; exact hg1l
  ·rw [List.mem_singleton] at hp;subst hp;exact zU (by omega) h16 hgp a1 b1
 ·have hk:k0=1:=by omega
  subst hk;obtain ⟨hlo,hbl,hO0,hgo,hps0,hm0⟩:=h1 rfl;have hl0:ps0.length=1:=by have:=congrArg List.length hm0; simpa using this
  have htk: ∀k,k<=n->l.take k=rest.take k:=fun k hk=>by rw [hle,List.take_append_of_le_length (by omega)]
  refine ag ?_;refine aJ [9,78,79] (fun x:Nat×Value×List (Value×U)=> [(8,none,x.2.1),(80,none,.int .i64 (x.1:Int))])
   (fun x W'=>x.1<=l.length/\Below w.heap.size w W'/\Blk W' g1 4 ((((List.replicate l.length false).set n true).set (n+1) true).map Value.bool)/\OwnS W' 159 1 x.2.1 x.2.2.length (x.2.2.map (·.1))/\(∀g,x.2.1.ownBlock=some g->g1<g)/\Prs l.length x.2.2/\x.2.2.map (·.2)=jU a b gp::(rest.take (min x.1 n)).map gZ) (fun x=>l.length-x.1) (0,uv0,ps0) ⟨ZB,hBW,hbl,by rw [hl0]; exact hO0,hgo,hps0,by rw [hm0]; simp⟩ ?_
  rintro ⟨k,uv,ps⟩ W' ⟨hk,hB,hbk,hO,hg,hps,hmap⟩;dsimp only at hk hO hg hps hmap;have hpl:ps.length=min k n+1:=by
   have:=congrArg List.length hmap;simp [hn] at this;omega
  refine ag ?_;refine ai rfl (fun hlt1=> ?_) (fun hge1=> ?_)
  ·have hkl:k<l.length:=by omega
   obtain ⟨e,he⟩: ∃e,l[k]?=some e:=⟨l[k],ZD hkl⟩;have hlW:=hl.below hB;obtain ⟨ad,rfl⟩:=hlW.addr (by omega);obtain ⟨nv,hcells,i1,i2,i3,hneeds⟩:=SE.get hlW he;obtain ⟨C,ncap,rfl,_⟩:=hneeds.form;have heok:=hok.each e (ZF he);refine ag ?_;refine aF rfl (hcells) ?_;refine dC rfl rfl nY ?_;rintro g2 w2 f2;refine ag ?_;have hg2:=f2.at_;have hbs:=hB.size;have hgl1:=hbk.lt;refine aQ rfl rfl rfl f2.blk is60.q rfl rfl rfl ?_;rintro w3 hB3 hg3 hsz3;have hbel3:Below w.heap.size w w3:=(hB.step f2.below).grown hg3 (hB.step f2.below).size (fun q hq=>by cases hq; omega);have hbk3:Blk w3 g1 4 ((((List.replicate l.length false).set n true).set (n+1) true).map Value.bool):=But.blk hg3 (hbk.next f2.below) (by omega);have hBk3:w3.cell? (Addr.add ⟨g1,0,none⟩ ((k:Int).toNat*1))=some (.bool (decide (n<=k))):=by
    rw [show (k:Int).toNat*1=k by omega];exact hbk3.fld (by rw [List.getElem?_map,B8 hll hkl]; rfl)
   have hO3:OwnS w3 159 1 uv ps.length (ps.map (·.1)):=(hO.below f2.below).kept fun q hq=>hg3.block q ((hO.below f2.below).lt hq) (fun e=>by cases e; have:=hO.lt hq; omega);refine ag ?_;refine aj rfl hBk3 ?_;refine ag ?_;refine aI [8,9,13,14,78,79,80,89] rfl ?_;refine au rfl (fun hin=> ?_) (fun hout=> ?_)
   ·have hkn:k<n:=by simpa using hin
    refine ag ?_;refine aF rfl (fun _ _ h=>hB3.fld h) ?_;refine aH [0,1] [.tmp 91,.tmp 92] [.int .i64 (k:Int),.int .i64 e.office,.int .i64 e.low,.int .i64 e.high,.slice C e.needs.length ncap] rfl rfl rfl (aa rfl ct (aa rfl ct ah)) (by kernel_rfl) ?_;refine aT (nC rfl) rfl ⟨ct,trivial⟩ (fun _=>trivial) ?_;refine ak 159 _ rfl rfl rfl H6 (aa rfl ct ah) rfl rfl rfl rfl rfl ?_;rintro g5 w5 f5;have hO5:=hO3.below f5.below;refine aK [.iface 218 (.agg #[.int .i64 (k:Int),.int .i64 e.office,.int .i64 e.low,.int .i64 e.high,.slice C e.needs.length ncap])] rfl rfl Hl rfl hO5 rfl rfl (fun j v hj=>⟨⟨g5,0,none⟩,rfl,f5.blk.fld hj⟩) (fun v hv=>by simp at hv; subst hv; rfl) (by omega) (by omega) ?_;rintro uv' w6 hO6 hg6 hnew6;refine ag ?_;have hbel5:=hbel3.step f5.below;have hw2:=f2.size;refine aC (k+1,uv',ps++ [(.iface 218 (.agg #[.int .i64 (k:Int),.int .i64 e.office,.int .i64 e.low,.int .i64 e.high,.slice C e.needs.length ncap]),gZ e)]) ⟨by show k+1<=l.length; omega,hbel5.grown hg6 hbel5.size (fun q hq=>by have:=hg q hq; omega),GB.blk hg6 (hbk3.next f5.below) (fun e=>by have:=hg g1 e; omega),by rw [List.map_append,List.length_append]; exact hO6,fun q hq=> ?_,fun p hp=> ?_,?_⟩
    ·rcases hnew6 with h|h
     ·exact hg q (by rw [<-h]; exact hq)
     ·rw [h] at hq; cases hq; have:=f5.below.size; omega
    ·rcases ZH hp with h|h
     ·exact hps p h
     ·rw [List.mem_singleton] at h;subst h;exact uW hkl h16 heok.o1
    ·show List.map Prod.snd (ps++ [_])=jU a b gp::(rest.take (min (k+1) n)).map gZ;have hre:rest[k]?=some e:=by rw [hle,List.getElem?_append_left (by omega)] at he; exact he
     rw [List.map_append,hmap,Nat.min_eq_left (by omega),Nat.min_eq_left (by omega),ZG,List.map_append,hre];rfl
   ·have hkn:n<=k:=by simpa using hout
    refine ag ?_;refine aC (k+1,uv,ps) ⟨by show k+1<=l.length; omega,hbel3,hbk3,hO3,hg,hps,?_⟩;show ps.map (·.2)=jU a b gp::(rest.take (min (k+1) n)).map gZ;rw [hmap,Nat.min_eq_right (by omega),Nat.min_eq_right (by omega)]
  have hke:k=l.length:=by omega
  subst hke;have hps2:ps.map (·.2)=jU a b gp::rest.map gZ:=by rw [hmap,Nat.min_eq_right (by omega),List.take_of_length_le (by omega)]
  obtain ⟨UA,ucap,rfl,hucap,_⟩:=hO.form;refine ag ?_;refine aJ [8,98,99] (fun x:Nat=> [(100,none,.int .i64 (x:Int))])
   (fun x W2=>x<=ps.length/\Below W'.heap.size W' W2/\ ∀(i:Nat) (p:Value×U),i<x->ps[i]?=some p->p.2.low<=p.2.high) (fun x=>ps.length-x) 0 ⟨ZB,ZA,fun i e hi=>by omega⟩ ?_
  rintro k W2 ⟨hk2,hB2,hwin⟩;have hO2:=hO.below hB2;refine ag ?_;refine ai rfl (fun hlt2=> ?_) (fun hge2=> ?_)
  ·obtain ⟨p,hp,hpm⟩:=bD (l:=ps) (k:=k) (by omega);obtain ⟨gu,rfl⟩:=hO2.addr (by simp; omega);have hc:W2.cell? (Addr.add ⟨gu,0,none⟩ ((k:Int).toNat*1))=some p.1:=hO2.cell1 (by simp [hp]);obtain ⟨t,x,kw,ke,ks,kr,hpx,mw,me,ms,mr,cw,ce,cs,cr⟩:=hps p hpm;rw [hpx] at hc;refine ag ?_;refine aj rfl hc ?_;refine ag ?_;refine dG rfl rfl (mw) rfl ah (cw _) ?_;rintro y3 w3 ⟨hb3,rfl⟩;refine ag ?_;refine aI [8,16,17,18,98,99,100,111] rfl ?_;refine ai rfl (fun hbad=> ?_) (fun hgood=> ?_)
   ·refine ag ?_;refine jH rfl ⟨(hB.step hB2).step hb3,.inl ⟨rfl,.inr ⟨p.2,?_,hbad⟩⟩⟩;rw [<-hps2];exact List.mem_map_of_mem hpm
   ·refine ag ?_;refine aC (k+1) ⟨by omega,hB2.step hb3,fun i e hi he=> ?_⟩;rcases ZI i k with h|h
    ·exact hwin i e h he
    ·obtain rfl:i=k:=by omega
     rw [hp] at he;cases he;omega
  ·refine ag ?_;have hU:NH l.length (ps.map (·.1)):=fun v hv=>by
    rw [List.mem_map] at hv;obtain ⟨p,hp,rfl⟩:=hv;exact ⟨p.2,hps p hp⟩
   refine aA rfl (pu hO2 (by omega) hU) ?_;rintro y4 w4 ⟨hg4,vs',hp4,hO4⟩;refine ag ?_;obtain ⟨ps',hp5,rfl⟩:=lZ ps vs' hp4;have hbel:Below w.heap.size w W2:=hB.step hB2;have hbel4:Below w.heap.size w w4:=hbel.grown hg4 hbel.size (fun q hq=>by have:=hg q hq; omega);refine jH rfl ⟨hbel4,.inr ⟨_,ps'.map (·.2),rfl,?_,?_,hlo,fun u hu=> ?_⟩⟩
   ·have:=Prs.sl (fun p hp=>hps p (hp5.mem_iff.1 hp)) hO4 (by omega) (fun q hq=>hO4.lt hq);exact this
   ·rw [<-hps2];exact hp5.map _
   ·obtain ⟨p,hp,rfl⟩:=List.mem_map.1 hu;obtain ⟨i,hi⟩:=List.mem_iff_getElem?.1 (hp5.mem_iff.1 hp);exact hwin i p (by have:=(ZE hi).1; omega) hi
def C6 (d:bA) (l rest:List Ev) (a b:Ev) (g:Int):Prop:=WfE d l/\PossJ d rest a b g
theorem OH {g:Int} (ha:EOK d a) (hb:EOK d b) (hl:kS d a b g) (hg:0<=g/\g<=1000000) (hw:(jU a b g).low<=(jU a b g).high):Num d (jU a b g):=by
 have h1:0<=dF a/\dF a<=1000001:=by unfold dF; omega
 have h2:0<=dF b/\dF b<=1000001:=by unfold dF; omega
 have h3: -1<=bM a/\bM a<=1000000:=by unfold bM; omega
 have h4: -1<=bM b/\bM b<=1000000:=by unfold bM; omega
 have e1:(jU a b g).low=max (dF a) (dF b-g):=rfl;have e2:(jU a b g).high=min (bM a) (bM b-g):=rfl;exact ⟨Cy ha hb hl,by omega,by omega,hg⟩
theorem L4 {ev:Value} {rest:List Ev} {la:Addr} {lc:Nat} {gp:Int} (hd:SD w dv d) (hl:SE w ev l) (hleg:LegAt w la n gp) (hle:l=rest++ [a,b]) (hn:rest.length=n) (hgp:0<=gp/\gp<=1000000):Gives prog 33 #[dv,ev,.slice (some la) 1 lc] w fun x w'=>Below w.heap.size w w'/\ ∃v,x= .tuple #[v,.bool (dec (C6 d l rest a b gp))]:=by
 have hll:l.length=n+2:=by rw [hle,List.length_append,hn]; rfl
 obtain ⟨A,cap,rfl,hcap⟩:=hd.form;obtain ⟨B,lcap,rfl,hlcap⟩:=hl.form;refine gv (f:=33) ?_;refine ag ?_;refine aA rfl (Gp hd hl hleg hll hgp) ?_;rintro y1 w1 ⟨hb1,rfl⟩;refine ag ?_;refine au rfl (fun hbad=> ?_) (fun hgood=> ?_)
 ·refine ag ?_;refine jH rfl ⟨hb1,_,by rw [az (fun h=>Nn hbad h.1)]⟩
 have hok:WfE d l:=Kz hgood;have hwd:=hok.wd;have h16:=hok.few;refine ag ?_;refine aA rfl (E8 (aU hd hb1) (aY hl hb1) (hleg.below hb1) hle hn hgp hok) ?_;rintro y2 w2 ⟨hb2,hsp⟩;have hoa:=hok.each a (by rw [hle]; simp);have hob:=hok.each b (by rw [hle]; simp);have hor: ∀e∈rest,EOK d e:=fun e he=>hok.each e (by rw [hle]; exact List.mem_append_left _ he);rcases hsp with ⟨rfl,hno0⟩|⟨uv,us,rfl,hus,hperm,hlo,hwin⟩
 ·skip
  refine ag ?_;refine aI [0,1,2,6,7,8,9,31] rfl ?_;refine au rfl (fun h1=> ?_) (fun h2=> ?_)
  ·refine ag ?_;refine jH rfl ⟨hb1.step hb2,.slice none 0 0,?_⟩;rw [az];intro h;rcases hno0 with h0|⟨u0,hu0,hw0⟩
   ·exact h0 h.2.1
   ·have:=((nO hwd hor hoa hob hgp.1 h.2.1 (List.Perm.refl _)).1 h.2).1 u0 hu0;omega
  ·exact absurd h2 (by simp)
 have hlen:us.length=n+1:=by have:=hperm.length_eq; simp [hn] at this; exact this
 have hu16:us.length<=16:=by omega
 have hnum: ∀u∈us,Num d u:=fun u hu=>by
  rcases List.mem_cons.1 (hperm.mem_iff.1 hu) with rfl|h
  ·exact OH hoa hob hlo hgp (hwin _ hu)
  ·obtain ⟨e,he,rfl⟩:=List.mem_map.1 h;exact Gy hwd (hor e he)
 have huok: ∀u∈us,UOK d u:=fun u hu=>(hnum u hu).ok;have hposs:PossJ d rest a b gp↔Feas d (none,0) us:=by
  rw [nO hwd hor hoa hob hgp.1 hlo hperm];exact ⟨fun h=>h.2,fun h=>⟨hwin,h⟩⟩
 obtain ⟨UA,ucap,rfl,_⟩:=hus.form;have hB2:=hb1.step hb2;refine ag ?_;refine au rfl (fun h1=> ?_) (fun h2=> ?_)
 ·exact absurd h1 (by simp)
 refine ag ?_;refine aH [0,1] [.tmp 32,.tmp 33] [.slice A d.length cap,.slice UA us.length ucap,.slice none 0 0] rfl rfl rfl (aa rfl ct (aa rfl ct ah)) (by kernel_rfl) ?_;refine aG rfl rfl rfl rfl ?_;rintro g w3 f3;refine ag ?_;have hB3:=hB2.step f3.below;have hgw:w.heap.size<=g:=by have:=f3.at_; have:=hB2.size; omega
 have hS:Srch w3 g l.length d us (.slice A d.length cap) (.slice UA us.length ucap) (.slice none 0 0):=by
  refine ⟨f3.blk,?_,?_⟩
  ·have:=((aU hd hB2).below f3.below);rw [f3.at_]; exact this
  ·have:=hus.below f3.below;rw [f3.at_]; exact this
 refine aA rfl (vw hwd hS hnum hu16) ?_;rintro y4 w4 ⟨hb4,hpre⟩;have hB4:Below w.heap.size w w4:=But.below hB3 hb4 hgw;rcases hpre with ⟨rfl,i,j,u,v,hi,hj,hij,hn1,hn2⟩|⟨rfl,gf,F,hSF,hF,hF2⟩
 ·skip
  refine ag ?_;refine aI [0,1,2,6,7,8,9,10,38] rfl ?_;refine au rfl (fun h1=> ?_) (fun h3=> ?_)
  ·refine ag ?_;refine jH rfl ⟨hB4,.slice none 0 0,?_⟩;rw [az];intro h;rcases vO hwd huok (s:=(none,0)) (fun x hx=>by cases hx) (hposs.1 h.2) hi hj hij with h'|h'
   ·exact hn1 h'
   ·exact hn2 h'
  ·exact absurd h3 (by simp)
 refine ag ?_;refine au rfl (fun h1=> ?_) (fun h3=> ?_)
 ·exact absurd h1 (by simp)
 refine ag ?_;refine aA rfl (Ci hwd hSF hnum hu16) ?_;rintro y5 w5 ⟨hb5,hq⟩;have hB5:=hB4.step hb5;have hS5:=hSF.step hb5;rcases hq with rfl|⟨sv,L,rfl,hL,hLi,hfeas⟩
 ·skip
  refine ag ?_;refine au rfl (fun h4=> ?_) (fun h5=> ?_)
  ·refine ag ?_;refine aA rfl (Hq hwd hS5 hnum hu16 hF hF2) ?_;rintro y6 w6 ⟨hb6,hfu⟩;have hB6:=hB5.step hb6;have hS6:=hS5.step hb6;rcases hfu with ⟨rfl,hno⟩|⟨sv,L,rfl,hL,hLi,hfeas⟩
   ·skip
    refine ag ?_;refine aI [0,1,2,6,7,8,9,10,11,52] rfl ?_;refine au rfl (fun h6=> ?_) (fun h7=> ?_)
    ·refine ag ?_;refine jH rfl ⟨hB6,_,by rw [az (fun h=>hno (hposs.1 h.2))]⟩
    ·exact absurd h7 (by simp)
   ·skip
    refine ag ?_;refine au rfl (fun h6=> ?_) (fun h7=> ?_)
    ·exact absurd h6 (by simp)
    obtain ⟨SA,scap,rfl,_⟩:=hL.form;have hSbig:=hL.big;refine ag ?_;refine bI rfl rfl (dH lF EO rfl) rfl rfl (by omega) (by omega) ?_;rintro g12 w7 f7;refine ag ?_;refine jw [0,1,2,6,7,8,9,10,11,12] rfl ?_;refine aH [1] [.const (.int .i64 (-1))] [.int .u32 ((0:Nat):Int),.int .i64 (-1)] rfl rfl rfl (aa rfl ct ah) (by kernel_rfl) ?_;refine aM rfl mF rfl is156.q rfl rfl ?_;rintro g13 w8 f8;refine ag ?_;have hg12:=f7.at_;have hg13:=f8.at_;have hw7:=f7.size;have hBW8:Below w6.heap.size w6 w8:=f7.below.step f8.below;refine aJ [1,8,10,12,13,57,58] (fun x:Nat×Nat×St=> [(14,none,.int .i64 x.2.2.2),(59,none,.int .i64 (x.1:Int))])
     (fun x W=>x.1<=L.length/\Below w6.heap.size w6 W/\Blk W g13 156 [.int .u32 (x.2.1:Int),.int .i64 (eU x.2.2.1)]/\jG W g12 l.length/\qT d x.2.2/\ -1<=x.2.2.2/\x.2.2.2<=3000000/\x.2.1<2 ^ 32) (fun x=>L.length-x.1) (0,0,(none,0)) ⟨ZB,hBW8,f8.blk,⟨List.replicate l.length 0,by simp,by simpa using f7.blk.next f8.below⟩,(fun x hx=>by cases hx),by decide,by decide,(by decide:0<2 ^ 32)⟩ ?_
    rintro ⟨i,k,s⟩ W ⟨hi,hBW,hBs,hT,hso,ht0,ht1,hk⟩;dsimp only at hi hBW hBs hT hso ht0 ht1 hk;refine ag ?_;refine ai rfl (fun hlt=> ?_) (fun hge=> ?_)
    ·have hil:i<L.length:=by omega
     obtain ⟨y,hy⟩: ∃y,L[i]?=some y:=⟨L[i],ZD hil⟩;obtain ⟨gs,rfl,hcy⟩:=(hL.below hBW).get hy;have hyl:=hLi y (ZF hy);obtain ⟨u,hu⟩: ∃u,us[y]?=some u:=⟨us[y],ZD hyl⟩;have nu:=hnum u (ZF hu);have hSW:=hS6.step hBW;have hbr:=lG (s:=s) nu;have hspn:=nu.span;obtain ⟨ua,rfl⟩:=hSW.s.units.addr (by omega);refine ag ?_;refine aj rfl hcy ?_;refine ag ?_;refine aF rfl (fun _ _ h=>hBs.fld h) ?_;refine ag ?_;refine aA rfl (jK (k:=k) hwd hSW.s hu nu hso ⟨ht0,ht1⟩) ?_;rintro y9 w9 ⟨hb9,rfl⟩;have hT9:jG w9 g12 l.length:=by
      obtain ⟨xs,h1,h2⟩:=hT;exact ⟨xs,h1,h2.next hb9⟩
     have hS9:=hSW.step hb9;have hBs9:=hBs.next hb9;obtain ⟨v1,hc1,hv1⟩:=jS hS9.s.units hu;obtain ⟨tt,x,kw,ke,ks,kr,rfl,mw,me,ms,mr,cw,ce,cs,cr⟩:=hv1;refine ag ?_;refine aj rfl hc1 ?_;refine ag ?_;refine dG rfl rfl (mr) rfl (aa rfl ct (aa rfl ct ah)) (cr _ _ _ (by omega) (by omega) hT9) ?_;rintro y10 w10 ⟨hbut10,hT10⟩;refine ag ?_;refine aI [1,8,10,12,13,14,16,17,57,58,59] rfl ?_;refine jB [4] 11 mixed (by kernel_rfl) (fun _ _ d _ _ h=>by cases d<;>exact h) fun W22 hb22=> ?_;refine dL .weak 10 (by kernel_rfl) (by kernel_rfl) rfl rfl hb22 ?_;refine aZ ?_;have hBW9:=hBW.step hb9;have hBW10:Below w6.heap.size w6 w10:=hBW9.grown hbut10 hBW9.size (fun q hq=>by cases hq; omega);have hS10:=hS6.step hBW10;have hBs10:=But.blk (k:=g13) hbut10 hBs9 (by omega);obtain ⟨v2,hc2,hv2⟩:=jS hS10.s.units hu;obtain ⟨tt2,x2,kw2,ke2,ks2,kr2,rfl,mw2,me2,ms2,mr2,cw2,ce2,cs2,cr2⟩:=hv2;refine dx rfl (fun _ _ h=>hBs10.fld h) ?_;refine aZ ?_;refine fE (.ex (.agg #[.int .u32 ((k ||| 1 <<< y:Nat):Int),.int .i64 (u.exit:Int)])) trivial rfl (fun _ w' hb'=>nU (k:=k) (hS10.step hb').s hu hk (by omega)) ?_;refine aZ ?_;refine aB rfl hc2 ?_
     refine jQ (.ex (.int .i64 u.span)) trivial rfl rfl (ms2) rfl ct aP (fun _ w' _=>cs2 w') ?_;refine dD (iv [1,8,10,12,13,14,16,17,57,58,59,78,79,84] [(1,_,_),(8,_,_),(10,_,_),(12,_,_),(13,_,_),(14,_,_),(16,_,_),(17,_,_),(57,_,_),(58,_,_),(59,_,_),(78,_,_),(79,_,_),(84,_,_)] rfl (fun w11 hb11=>ek ?_));refine gV (by kernel_rfl) (by kernel_rfl) (fun _ _ d _ _ h=>by cases d<;>exact h) rfl rfl rfl (fun _ h=>by cases h) (fun a w ha=>wm (ha.eval rfl trivial) (ha.eval rfl trivial) (by (try dsimp only); omega)) ?_;refine bV (by kernel_rfl) (by kernel_rfl) rfl ?_;have hBs11:=hBs10.next hb11;refine aQ rfl rfl rfl hBs11 is156.q rfl rfl rfl ?_;rintro w12 hBs12 hg12' hsz12;refine bG (aS [1,8,10,12,13,14,16,17,57,58,59,85] [(1,_,_),(8,_,_),(10,_,_),(12,_,_),(13,_,_),(14,_,_),(16,_,_),(17,_,_),(57,_,_),(58,_,_),(59,_,_),(85,_,_)] rfl (dJ ?_));refine bV (by kernel_rfl) (by kernel_rfl) rfl ?_;refine aT df rfl ⟨ct,trivial⟩ (fun _=>trivial) ?_;refine bG (aS [1,8,10,12,13,14,16,17,57,58,59] [(1,_,_),(8,_,_),(10,_,_),(12,_,_),(13,_,_),(14,_,_),(16,_,_),(17,_,_),(57,_,_),(58,_,_),(59,_,_)] rfl (dJ ?_))
     refine ed rfl (aS [1,8,10,12,13,14,16,17,57,58,59] [(1,_,_),(8,_,_),(10,_,_),(12,_,_),(13,_,_),(14,_,_),(16,_,_),(17,_,_),(57,_,_),(58,_,_),(59,_,_)] rfl (bP (aD ?_)));refine ag ?_;have hBW11:=hBW10.step hb11;have hp:(1 <<< y:Nat)<2 ^ 32:=by rw [Nat.one_shiftLeft]; exact Nat.pow_lt_pow_right (by decide) (by omega)
     refine aC (i+1,k ||| 1 <<< y,(some u.exit,eQ d s u+u.span)) ⟨by show i+1<=L.length; omega,hBW11.grown hg12' hBW11.size (fun q hq=>by cases hq; omega),hBs12,?_,?_,by show -1<=eQ d s u+u.span; omega,by show eQ d s u+u.span<=3000000; omega,Nat.or_lt_two_pow hk hp⟩
     ·obtain ⟨xs,h1,h2⟩:=hT10;exact ⟨xs,h1,But.blk (k:=g12) hg12' (h2.next hb11) (by omega)⟩
     ·intro x hx;cases hx;exact nu.ok.e2
    ·refine ag ?_;refine jH rfl ⟨hB6.step hBW,_,by rw [ay ⟨hok,hposs.2 hfeas⟩]⟩
  ·exact absurd h5 (by simp)
 ·skip
  refine ag ?_;refine au rfl (fun h4=> ?_) (fun h5=> ?_)
  ·exact absurd h4 (by simp)
  ·refine ag ?_;refine aI [0,1,2,6,7,8,9,10,11,52] rfl ?_;refine au rfl (fun h6=> ?_) (fun h7=> ?_)
   ·exact absurd h6 (by simp)
   obtain ⟨SA,scap,rfl,_⟩:=hL.form;have hSbig:=hL.big;refine ag ?_;refine bI rfl rfl (dH lF EO rfl) rfl rfl (by omega) (by omega) ?_;rintro g12 w7 f7;refine ag ?_;refine aH [1] [.const (.int .i64 (-1))] [.int .u32 ((0:Nat):Int),.int .i64 (-1)] rfl rfl rfl (aa rfl ct ah) (by kernel_rfl) ?_;refine aM rfl mF rfl is156.q rfl rfl ?_;rintro g13 w8 f8;refine ag ?_;have hg12:=f7.at_;have hg13:=f8.at_;have hw7:=f7.size;have hBW8:Below w5.heap.size w5 w8:=f7.below.step f8.below;refine aJ [1,8,10,12,13,57,58] (fun x:Nat×Nat×St=> [(14,none,.int .i64 x.2.2.2),(59,none,.int .i64 (x.1:Int))])
    (fun x W=>x.1<=L.length/\Below w5.heap.size w5 W/\Blk W g13 156 [.int .u32 (x.2.1:Int),.int .i64 (eU x.2.2.1)]/\jG W g12 l.length/\qT d x.2.2/\ -1<=x.2.2.2/\x.2.2.2<=3000000/\x.2.1<2 ^ 32) (fun x=>L.length-x.1) (0,0,(none,0)) ⟨ZB,hBW8,f8.blk,⟨List.replicate l.length 0,by simp,by simpa using f7.blk.next f8.below⟩,(fun x hx=>by cases hx),by decide,by decide,(by decide:0<2 ^ 32)⟩ ?_
   rintro ⟨i,k,s⟩ W ⟨hi,hBW,hBs,hT,hso,ht0,ht1,hk⟩;dsimp only at hi hBW hBs hT hso ht0 ht1 hk;refine ag ?_;refine ai rfl (fun hlt=> ?_) (fun hge=> ?_)
   ·have hil:i<L.length:=by omega
    obtain ⟨y,hy⟩: ∃y,L[i]?=some y:=⟨L[i],ZD hil⟩;obtain ⟨gs,rfl,hcy⟩:=(hL.below hBW).get hy;have hyl:=hLi y (ZF hy);obtain ⟨u,hu⟩: ∃u,us[y]?=some u:=⟨us[y],ZD hyl⟩;have nu:=hnum u (ZF hu);have hSW:=hS5.step hBW;have hbr:=lG (s:=s) nu;have hspn:=nu.span;obtain ⟨ua,rfl⟩:=hSW.s.units.addr (by omega);refine ag ?_;refine aj rfl hcy ?_;refine ag ?_;refine aF rfl (fun _ _ h=>hBs.fld h) ?_;refine ag ?_;refine aA rfl (jK (k:=k) hwd hSW.s hu nu hso ⟨ht0,ht1⟩) ?_;rintro y9 w9 ⟨hb9,rfl⟩;have hT9:jG w9 g12 l.length:=by
     obtain ⟨xs,h1,h2⟩:=hT;exact ⟨xs,h1,h2.next hb9⟩
    have hS9:=hSW.step hb9;have hBs9:=hBs.next hb9;obtain ⟨v1,hc1,hv1⟩:=jS hS9.s.units hu;obtain ⟨tt,x,kw,ke,ks,kr,rfl,mw,me,ms,mr,cw,ce,cs,cr⟩:=hv1;refine ag ?_;refine aj rfl hc1 ?_;refine ag ?_;refine dG rfl rfl (mr) rfl (aa rfl ct (aa rfl ct ah)) (cr _ _ _ (by omega) (by omega) hT9) ?_;rintro y10 w10 ⟨hbut10,hT10⟩;refine ag ?_;refine aI [1,8,10,12,13,14,16,17,57,58,59] rfl ?_;refine jB [4] 11 mixed (by kernel_rfl) (fun _ _ d _ _ h=>by cases d<;>exact h) fun W22 hb22=> ?_;refine dL .weak 10 (by kernel_rfl) (by kernel_rfl) rfl rfl hb22 ?_;refine aZ ?_;have hBW9:=hBW.step hb9;have hBW10:Below w5.heap.size w5 w10:=hBW9.grown hbut10 hBW9.size (fun q hq=>by cases hq; omega);have hS10:=hS5.step hBW10;have hBs10:=But.blk (k:=g13) hbut10 hBs9 (by omega);obtain ⟨v2,hc2,hv2⟩:=jS hS10.s.units hu;obtain ⟨tt2,x2,kw2,ke2,ks2,kr2,rfl,mw2,me2,ms2,mr2,cw2,ce2,cs2,cr2⟩:=hv2;refine dx rfl (fun _ _ h=>hBs10.fld h) ?_;refine aZ ?_;refine fE (.ex (.agg #[.int .u32 ((k ||| 1 <<< y:Nat):Int),.int .i64 (u.exit:Int)])) trivial rfl (fun _ w' hb'=>nU (k:=k) (hS10.step hb').s hu hk (by omega)) ?_;refine aZ ?_;refine aB rfl hc2 ?_
    refine jQ (.ex (.int .i64 u.span)) trivial rfl rfl (ms2) rfl ct aP (fun _ w' _=>cs2 w') ?_;refine dD (iv [1,8,10,12,13,14,16,17,57,58,59,78,79,84] [(1,_,_),(8,_,_),(10,_,_),(12,_,_),(13,_,_),(14,_,_),(16,_,_),(17,_,_),(57,_,_),(58,_,_),(59,_,_),(78,_,_),(79,_,_),(84,_,_)] rfl (fun w11 hb11=>ek ?_));refine gV (by kernel_rfl) (by kernel_rfl) (fun _ _ d _ _ h=>by cases d<;>exact h) rfl rfl rfl (fun _ h=>by cases h) (fun a w ha=>wm (ha.eval rfl trivial) (ha.eval rfl trivial) (by (try dsimp only); omega)) ?_;refine bV (by kernel_rfl) (by kernel_rfl) rfl ?_;have hBs11:=hBs10.next hb11;refine aQ rfl rfl rfl hBs11 is156.q rfl rfl rfl ?_;rintro w12 hBs12 hg12' hsz12;refine bG (aS [1,8,10,12,13,14,16,17,57,58,59,85] [(1,_,_),(8,_,_),(10,_,_),(12,_,_),(13,_,_),(14,_,_),(16,_,_),(17,_,_),(57,_,_),(58,_,_),(59,_,_),(85,_,_)] rfl (dJ ?_));refine bV (by kernel_rfl) (by kernel_rfl) rfl ?_;refine aT df rfl ⟨ct,trivial⟩ (fun _=>trivial) ?_;refine bG (aS [1,8,10,12,13,14,16,17,57,58,59] [(1,_,_),(8,_,_),(10,_,_),(12,_,_),(13,_,_),(14,_,_),(16,_,_),(17,_,_),(57,_,_),(58,_,_),(59,_,_)] rfl (dJ ?_))
    refine ed rfl (aS [1,8,10,12,13,14,16,17,57,58,59] [(1,_,_),(8,_,_),(10,_,_),(12,_,_),(13,_,_),(14,_,_),(16,_,_),(17,_,_),(57,_,_),(58,_,_),(59,_,_)] rfl (bP (aD ?_)));refine ag ?_;have hBW11:=hBW10.step hb11;have hp:(1 <<< y:Nat)<2 ^ 32:=by rw [Nat.one_shiftLeft]; exact Nat.pow_lt_pow_right (by decide) (by omega)
    refine aC (i+1,k ||| 1 <<< y,(some u.exit,eQ d s u+u.span)) ⟨by show i+1<=L.length; omega,hBW11.grown hg12' hBW11.size (fun q hq=>by cases hq; omega),hBs12,?_,?_,by show -1<=eQ d s u+u.span; omega,by show eQ d s u+u.span<=3000000; omega,Nat.or_lt_two_pow hk hp⟩
    ·obtain ⟨xs,h1,h2⟩:=hT10;exact ⟨xs,h1,But.blk (k:=g12) hg12' (h2.next hb11) (by omega)⟩
    ·intro x hx;cases hx;exact nu.ok.e2
   ·refine ag ?_;refine jH rfl ⟨hB5.step hBW,_,by rw [ay ⟨hok,hposs.2 hfeas⟩]⟩
def qG (dn:Nat) (e:Ev):Bool:=decide (e.office<0)||decide (e.office ≥ (dn:Int))
theorem I8 {g:Nat} {D:Option Addr} {dn dc:Nat} (hB:Blk w g 30 [.slice D dn dc]):zL w 109 [.pointer (some ⟨g,0,none⟩)] (qG dn):=by
 intro e nv F w1 hb1 hn;obtain ⟨C,ccap,rfl,_⟩:=hn.form;have hB1:=hB.next hb1;refine gv (f:=109) ?_;refine ag ?_;refine aG rfl rfl rfl rfl ?_;rintro g2 w2 f2;refine ag ?_;have hB2:=hB1.next f2.below;refine aj rfl (f2.blk.fld rfl) ?_;refine ag ?_;refine aj rfl (f2.blk.fld rfl) ?_;refine aj rfl (hB2.cell 0) ?_;refine ag ?_;refine aW rfl ⟨f2.below,rfl⟩
theorem Jf {p:Ev->Bool} (hl:SE w v l) (hk:enters prog k=true) (hp:zL w k caps p) :
  Gives prog 108 #[v,.func (.func k) #[] caps.toArray] w fun x w'=>Below w.heap.size w w'/\x= .bool (l.any p):=by
 obtain ⟨A,cap,rfl,_⟩:=hl.form;refine gv (f:=108) ?_;refine ag ?_;refine aA rfl (yO hl hk hp) ?_;rintro y1 w1 ⟨hb1,h1⟩;rcases h1 with ⟨rfl,h1⟩|⟨i,rfl,h1⟩
 ·skip
  refine ag ?_;refine aW rfl ⟨hb1,by rw [h1]; rfl⟩
 ·skip
  refine ag ?_;refine aW rfl ⟨hb1,by rw [h1]; simp⟩
structure FitW (d:bA) (l:List Ev) (nw:Nat):Prop where
 few:l.length<=14
 worlds:nw<=400
 wd:WfD d
 each: ∀e∈l,EOK d e
theorem FitW.wfe {nw:Nat} (h:FitW d l nw):WfE d l:=⟨h.wd,by have:=h.few; omega,h.each⟩
theorem off_all:l.any (qG d.length)=false↔ ∀e∈l,EOK d e:=by
 rw [List.any_eq_false];refine ⟨fun h e he=> ?_,fun h e he hb=> ?_⟩
 ·have:=h e he;unfold qG at this;simp at this;exact ⟨by omega,by omega⟩
 ·have h1:=(h e he).o1;have h2:=(h e he).o2;unfold qG at hb;simp at hb;omega
theorem vM {lv:Value} {W:Option Addr} {nw wc:Nat} (hd:SD w dv d) (hl:SE w lv l):Gives prog 57 #[dv,lv,.slice W nw wc] w fun x w'=>Below w.heap.size w w'/\x= .bool (dec (FitW d l nw)):=by
 obtain ⟨A,cap,rfl,_⟩:=hd.form;obtain ⟨B,bcap,rfl,_⟩:=hl.form;refine gv (f:=57) ?_;refine ag ?_;refine aG rfl rfl rfl rfl ?_;rintro g w1 f1;refine ag ?_;refine au rfl (fun hbad=> ?_) (fun hgood=> ?_)
 ·refine ag ?_;refine aW rfl ⟨f1.below,by rw [az fun h=>by have:=h.few; have:=h.worlds; simp at hbad; omega]⟩
 have hg:l.length<=14/\nw<=400:=by simp at hgood; omega
 refine ag ?_;refine aj rfl (f1.blk.cell 0) ?_;refine aA rfl (yX (aU hd f1.below) (SL.nil evT (fun k=>k<w1.heap.size) w1)) ?_;rintro y2 w2 ⟨hb2,tv,rfl⟩;have hB2:=f1.below.step hb2;have hg2:=f1.blk.next hb2;have hfd:dec (kY d [])=dec (WfD d):=fJ ⟨fun h=>h.1.wd,fun h=>⟨⟨h,by simp,by simp⟩,tF d⟩⟩;rw [hfd];refine ag ?_;refine aN rfl rfl (aa rfl ct ah) ?_;refine aO (cap:= []) rfl rfl ie108.q rfl ct (aa rfl id (aa rfl id ah)) (fun _=>Jf (aY hl hB2) ie109.q (I8 hg2)) ?_;rintro w3 c3;refine ag ?_;refine aW rfl ⟨hB2.step c3,?_⟩;by_cases hw:WfD d
 ·rw [ay hw];by_cases ha: ∀e∈l,EOK d e
  ·rw [off_all.2 ha,ay ⟨hg.1,hg.2,hw,ha⟩];rfl
  ·have:l.any (qG d.length)=true:=by
    cases h:l.any (qG d.length) with
    | true=>rfl
    | false=>exact absurd (off_all.1 h) ha
   rw [this,az fun h=>ha h.each];rfl
 ·rw [az hw,az fun h=>hw h.wd];rfl
def BQ (w:World) (k:FuncId) (caps:List Value) (L:List (List Int)) (p:List Int->Bool):Prop:= ∀r∈L,∀(rv:Value) (w':World),Below w.heap.size w w'->SL bC (fun k=>k<w.heap.size) w' rv r ->
 Gives prog k (rv::caps).toArray w' fun u w''=>Below w'.heap.size w' w''/\u= .bool (p r)
theorem Ea {p:List Int->Bool} (hl:SL (sliceT bC) (fun k=>k<w.heap.size) w v L) (hk:enters prog k=true) (hp:BQ w k caps L p) :
  Gives prog 114 #[v,.func (.func k) #[] caps.toArray] w fun x w'=>Below w.heap.size w w'/\((x= .int .i64 (-1)/\L.any p=false)∨ ∃i:Nat,x= .int .i64 (i:Int)/\L.any p=true):=by
 obtain ⟨A,cap,rfl,_⟩:=hl.form;have hmax:L.length<=9223372036854775807:=hl.len.2.2;refine gv (f:=114) ?_;refine ag ?_;refine aJ [0,1,7] (fun i:Nat=> [(8,none,.int .i64 (i:Int))])
  (fun i W=>i<=L.length/\Below w.heap.size w W/\(L.take i).any p=false) (fun i=>L.length-i) 0 ⟨ZB,ZA,rfl⟩ ?_
 rintro i W ⟨hi,hB,hno⟩;refine ag ?_;refine ai rfl (fun hlt=> ?_) (fun hge=> ?_)
 ·have hil:i<L.length:=by omega
  have hlW:=hl.below hB;obtain ⟨ad,rfl⟩:=hlW.addr (by omega);obtain ⟨e,he,hem⟩:=bD (l:=L) (k:=i) hil;obtain ⟨rv,hcell,hrow⟩:=hlW.row he;refine ag ?_;refine aj rfl hcell ?_;refine bK rfl rfl hk rfl (aa rfl ct ah) (hp e hem rv _ hB hrow) ?_;rintro y1 w1 ⟨hb1,rfl⟩;refine ag ?_;refine au rfl (fun hyes=> ?_) (fun hnot=> ?_)
  ·refine ag ?_;refine aW rfl ⟨hB.step hb1,.inr ⟨i,rfl,?_⟩⟩;rw [List.any_eq_true];exact ⟨e,hem,hyes⟩
  ·refine ag ?_;refine aC (i+1) ⟨by omega,hB.step hb1,?_⟩;rw [ZG,List.any_append,hno,he];simp [hnot]
 ·refine ag ?_;refine aW rfl ⟨hB,.inl ⟨rfl,?_⟩⟩;rw [show i=L.length by omega,List.take_length] at hno;exact hno
theorem Fe {p:List Int->Bool} (hl:SL (sliceT bC) (fun k=>k<w.heap.size) w v L) (hk:enters prog k=true) (hp:BQ w k caps L p) :
  Gives prog 62 #[v,.func (.func k) #[] caps.toArray] w fun x w'=>Below w.heap.size w w'/\x= .bool (L.any p):=by
 obtain ⟨A,cap,rfl,_⟩:=hl.form;refine gv (f:=62) ?_;refine ag ?_;refine aA rfl (Ea hl hk hp) ?_;rintro y1 w1 ⟨hb1,h1⟩;rcases h1 with ⟨rfl,h1⟩|⟨i,rfl,h1⟩
 ·skip
  refine ag ?_;refine aW rfl ⟨hb1,by rw [h1]; rfl⟩
 ·skip
  refine ag ?_;refine aW rfl ⟨hb1,by rw [h1]; simp⟩
def BP (w:World) (k:FuncId) (caps:List Value) (L:List (List Ev)) (p:List Ev->Bool):Prop:= ∀r∈L,∀(rv:Value) (w':World),Below w.heap.size w w'->SL evT (fun k=>k<w.heap.size) w' rv r ->
 Gives prog k (rv::caps).toArray w' fun u w''=>Below w'.heap.size w' w''/\u= .bool (p r)
theorem D9 {L:List (List Ev)} {p:List Ev->Bool} (hl:SL (sliceT evT) (fun k=>k<w.heap.size) w v L) (hk:enters prog k=true) (hp:BP w k caps L p) :
  Gives prog 189 #[v,.func (.func k) #[] caps.toArray] w fun x w'=>Below w.heap.size w w'/\((x= .int .i64 (-1)/\L.any p=false)∨ ∃i:Nat,x= .int .i64 (i:Int)/\L.any p=true):=by
 obtain ⟨A,cap,rfl,_⟩:=hl.form;have hmax:L.length<=9223372036854775807:=hl.len.2.2;refine gv (f:=189) ?_;refine ag ?_;refine aI [0,1,4,7,8] rfl ?_;refine aJ [0,1,7] (fun i:Nat=> [(8,none,.int .i64 (i:Int))])
  (fun i W=>i<=L.length/\Below w.heap.size w W/\(L.take i).any p=false) (fun i=>L.length-i) 0 ⟨ZB,ZA,rfl⟩ ?_
 rintro i W ⟨hi,hB,hno⟩;refine ag ?_;refine ai rfl (fun hlt=> ?_) (fun hge=> ?_)
 ·have hil:i<L.length:=by omega
  have hlW:=hl.below hB;obtain ⟨ad,rfl⟩:=hlW.addr (by omega);obtain ⟨e,he,hem⟩:=bD (l:=L) (k:=i) hil;obtain ⟨rv,hcell,hrow⟩:=hlW.row he;refine ag ?_;refine aj rfl hcell ?_;refine bK rfl rfl hk rfl (aa rfl ct ah) (hp e hem rv _ hB hrow) ?_;rintro y1 w1 ⟨hb1,rfl⟩;refine ag ?_;refine au rfl (fun hyes=> ?_) (fun hnot=> ?_)
  ·refine ag ?_;refine aW rfl ⟨hB.step hb1,.inr ⟨i,rfl,?_⟩⟩;rw [List.any_eq_true];exact ⟨e,hem,hyes⟩
  ·refine ag ?_;refine aC (i+1) ⟨by omega,hB.step hb1,?_⟩;rw [ZG,List.any_append,hno,he];simp [hnot]
 ·refine ag ?_;refine aW rfl ⟨hB,.inl ⟨rfl,?_⟩⟩;rw [show i=L.length by omega,List.take_length] at hno;exact hno
theorem Fb {L:List (List Ev)} {p:List Ev->Bool} (hl:SL (sliceT evT) (fun k=>k<w.heap.size) w v L) (hk:enters prog k=true) (hp:BP w k caps L p) :
  Gives prog 110 #[v,.func (.func k) #[] caps.toArray] w fun x w'=>Below w.heap.size w w'/\x= .bool (L.any p):=by
 obtain ⟨A,cap,rfl,_⟩:=hl.form;refine gv (f:=110) ?_;refine ag ?_;refine aA rfl (D9 hl hk hp) ?_;rintro y1 w1 ⟨hb1,h1⟩;rcases h1 with ⟨rfl,h1⟩|⟨i,rfl,h1⟩
 ·skip
  refine ag ?_;refine aW rfl ⟨hb1,by rw [h1]; rfl⟩
 ·skip
  refine ag ?_;refine aW rfl ⟨hb1,by rw [h1]; simp⟩
theorem Jh {g:Nat} {lv:Value} (hB:Blk w g 31 [lv]) (hl:SE w lv l) (hsm:l.length<=1000000) (hne: ∀e∈l,e.needs.length<=1000000):BQ w 61 [.pointer (some ⟨g,0,none⟩)] L (fun S=>decide ((bz l S).length=0)):=by
 intro S hS rv w' hb hr;have hB1:=hB.next hb;have hl1:=aY hl hb;obtain ⟨A,cap,rfl,_⟩:=hl1.form;obtain ⟨R,rcap,rfl,_⟩:=hr.form;refine gv (f:=61) ?_;refine ag ?_;refine aj rfl (hB1.cell 0) ?_;refine ag ?_;refine aA rfl (F7 hl1 hr hsm hne) ?_;rintro y1 w1 ⟨b1,h1⟩;obtain ⟨A1,cap1,rfl,_⟩:=h1.form;refine ag ?_;refine aW rfl ⟨b1,by congr 1; simp⟩
end Go.Proofs.YtobaafdejnimkaaGreatDoor
namespace Go.PF
open Go.RowKit
variable {α:Type}
def RowB (T:Ty α) (w:World) (e:TypeId) (b:Nat) (v:Value) (ps:List (List Value×α)):Prop:=OwnS w e T.n v ps.length (ps.flatMap (·.1))/\(∀p∈ps,T.rep (fun k=>b<=k/\kF w v k) w p.1 p.2)/\ ∀g,v.ownBlock=some g->b<=g
theorem RowB.nil (T:Ty α) (w:World) (e:TypeId) (b:Nat):RowB T w e b (.slice none 0 0) []:=⟨OwnS.nil _ _ _,(fun p hp=>by cases hp),fun g h=>by simp [Value.ownBlock] at h⟩
theorem RowB.new {T:Ty α} {w:World} {e:TypeId} {b g:Nat} (hB:Blk w g e []) (hg:b<=g):RowB T w e b (.slice (some ⟨g,0,none⟩) 0 0) [] :=
 ⟨bu hB (by simp) (by simp),(fun p hp=>by cases hp),fun q h=>by simp [Value.ownBlock] at h; omega⟩
theorem RowB.l {T:Ty α} {w:World} {e:TypeId} {b:Nat} {v:Value} {ps:List (List Value×α)} (h:RowB T w e b v ps):RowL T w e b v ps:=⟨h.1,fun p hp=>T.wider _ _ _ _ _ (fun _ hk=>hk.2) (h.2.1 p hp),h.2.2⟩
theorem RowB.sl {T:Ty α} (h0:0<T.n) {w:World} {e:TypeId} {b:Nat} {v:Value} {ps:List (List Value×α)} (h:RowB T w e b v ps):SL T (fun k=>b<=k/\k<w.heap.size) w v (ps.map (·.2)) :=
 dR ps (fun p hp=>T.wider _ _ _ _ _ (fun _ hk=>⟨hk.1,hk.2.1⟩) (h.2.1 p hp)) h0 h.1 rfl (fun g hg=>⟨h.2.2 g hg,h.1.lt hg⟩) h.l.big
theorem RowB.step {T:Ty α} {w w':World} {e:TypeId} {b:Nat} {v:Value} {ps:List (List Value×α)} (h:RowB T w e b v ps) (hb:Below w.heap.size w w'):RowB T w' e b v ps :=
 ⟨h.1.below hb,fun p hp=>T.wider _ _ _ _ _ (fun k hk=>⟨hk.1,Nat.lt_of_lt_of_le hk.2.1 hb.size,hk.2.2⟩) (T.mono _ _ _ _ _ (Kept.of_below hb) (h.2.1 p hp)),h.2.2⟩
theorem RowB.app {T:Ty α} {w w':World} {e:TypeId} {b:Nat} {v v':Value} {ps:List (List Value×α)} {cs:List Value} {x:α} (h:RowB T w e b v ps) (hO:OwnS w' e T.n v' (ps.length+1) (ps.flatMap (·.1)++cs)) (hg:w.grownBy w' v.ownBlock) (hn:v'.ownBlock=v.ownBlock∨v'.ownBlock=some w.heap.size)
  (hr:T.rep (fun k=>b<=k/\kF w v k) w cs x) (hb:b<=w.heap.size):RowB T w' e b v' (ps++ [(cs,x)]):=by
 have hk:Kept (fun k=>b<=k/\kF w v k) w w':=bn fun k hk hlt=>hg.block k hlt (fun e=>hk.2.2 e.symm);have hw: ∀k,(b<=k/\kF w v k)->b<=k/\kF w' v' k:=fun k hk=>⟨hk.1,Nat.lt_of_lt_of_le hk.2.1 hg.size,fun e=>by
  rcases hn with h'|h'
  ·exact hk.2.2 (by rw [<-h']; exact e)
  ·rw [h'] at e; cases e; exact absurd hk.2.1 (Nat.lt_irrefl _)⟩
 refine ⟨by rw [List.flatMap_append,List.length_append]; simpa using hO,fun p hp=> ?_,fun q hq=> ?_⟩
 ·rcases ZH hp with hp|hp
  ·exact T.wider _ _ _ _ _ hw (T.mono _ _ _ _ _ hk (h.2.1 p hp))
  ·rw [List.mem_singleton] at hp;subst hp;exact T.wider _ _ _ _ _ hw (T.mono _ _ _ _ _ hk hr)
 ·rcases hn with h'|h'
  ·exact h.2.2 q (by rw [<-h']; exact hq)
  ·rw [h'] at hq; cases hq; exact hb
end Go.PF
