/- Texts of this claim,joined. -/
import Derived.Test.YtobaafdejnimkaaGreatDoorQF
set_option linter.unusedSimpArgs false
set_option linter.unusedVariables false
set_option maxRecDepth 100000
set_option maxHeartbeats 4000000
namespace Go.Proofs.YtobaafdejnimkaaGreatDoor
open Tryz
open Go.PF Go.RowKit Go.Ord
attribute [local irreducible] TW CW KW DW
variable {w:World} {d:bA} {l rest:List Ev} {n i m cap k lc:Nat} {F G:Nat->Prop} {a b e:Ev} {dv lv nv v:Value} {L:List RS} {g gp:Int} {ad la:Addr}
structure Nd where
 first:Int
 second:Int
 office:Int
 low:Int
 high:Int
 gap:Int
 endo:Int
def Nd.cells (x:Nd):List Value:= [.int .i64 x.first,.int .i64 x.second,.int .i64 x.office,.int .i64 x.low,.int .i64 x.high,.int .i64 x.gap,.int .i64 x.endo]
def Nd.u (x:Nd):U:=⟨x.low,x.high,x.gap,x.office.toNat,x.endo.toNat⟩
def GG:Ty Nd where
 n:=7
 rep:=fun _ _ cs x=>cs=x.cells
 len:=fun _ _ _ _ h=>by rw [h]; rfl
 mono:=fun _ _ _ _ _ _ h=>h
 wider:=fun _ _ _ _ _ _ h=>h
def di (s:RS):List Value:= [.int .i64 s.time,.int .i64 (s.last:Int),.int .i64 (s.set:Int),.int .i64 s.frm]
def Oo:Ty RS where
 n:=4
 rep:=fun _ _ cs x=>cs=di x
 len:=fun _ _ _ _ h=>by rw [h]; rfl
 mono:=fun _ _ _ _ _ _ h=>h
 wider:=fun _ _ _ _ _ _ h=>h
structure NdOK (d:bA) (m:Nat) (x:Nd):Prop where
 o0:0<=x.office
 e0:0<=x.endo
 g0:0<=x.gap
 g1:x.gap<=1000000
 w0:0<=x.low
 w1:x.low<=x.high
 w2:x.high<=1000000
 uok:UOK d x.u
 f0:0<=x.first
 f1:x.first<m
 s1:x.second<m
theorem NdOK.o1 {x:Nd} (h:NdOK d m x):x.office.toNat<d.length:=h.uok.e1
theorem NdOK.e1 {x:Nd} (h:NdOK d m x):x.endo.toNat<d.length:=h.uok.e2
abbrev bS (ns:List Nd):List U:=ns.map Nd.u
theorem kT {ns:List Nd} {x:Nd} (h:ns[i]?=some x):(bS ns)[i]?=some x.u:=by simp [bS,h]
theorem Kq {ns:List Nd} (h: ∀x∈ns,NdOK d m x): ∀u∈bS ns,UOK d u:=fun u hu=>by
 obtain ⟨x,hx,rfl⟩:=List.mem_map.1 hu;exact (h x hx).uok
theorem zV {ns:List Nd} (h: ∀x∈ns,NdOK d m x): ∀u∈bS ns,0<=u.low/\u.low<=u.high/\u.high<=1000000:=fun u hu=>by
 obtain ⟨x,hx,rfl⟩:=List.mem_map.1 hu;exact ⟨(h x hx).w0,(h x hx).w1,(h x hx).w2⟩
theorem mh {α:Type} {T:Ty α} (f:α->List Value) (hf: ∀F w cs x,T.rep F w cs x->cs=f x) {l:List α} (h:SL T F w (.slice (some ad) n cap) l) {x:α} (hx:l[i]?=some x) :
  ∀ (j:Nat) v,(f x)[j]?=some v->w.cell? ((ad.add ((i:Int).toNat*T.n)).add j)=some v:=fun j v hj=>by
 obtain ⟨ad',cs,h1,_,hr,hc⟩:=h.at hx;cases h1;rw [hf _ _ _ _ hr] at hc;rw [show (i:Int).toNat=i by omega];exact hc j v hj
theorem iL {l:List Nd} (h:SL GG F w (.slice (some ad) n cap) l) {x:Nd} (hx:l[i]?=some x) :
  ∀ (j:Nat) v,x.cells[j]?=some v->w.cell? ((ad.add ((i:Int).toNat*7)).add j)=some v:=mh Nd.cells (fun _ _ _ _ h=>h) h hx
theorem zg (h:SL (sliceT bC) F w (.slice (some ad) n cap) d) (hw:WfD d) {a b:Nat} (ha:a<d.length) (hb:b<d.length) :
  ∃ rd rc,w.cell? (ad.add ((a:Int).toNat*1))=some (.slice (some rd) d.length rc)/\w.cell? (rd.add ((b:Int).toNat*1))=some (.int .i64 (at2 d a b)):=by
 obtain ⟨r,hr⟩: ∃r,d[a]?=some r:=⟨d[a],ZD ha⟩;have hrl:=hw.row _ _ hr;obtain ⟨z,hz⟩: ∃z,r[b]?=some z:=⟨r[b]'(by omega),ZD (by omega)⟩;obtain ⟨rv,hcell,hrow⟩:=h.row hr;obtain ⟨R,rcap,rfl,_⟩:=hrow.form;obtain ⟨rd,rfl⟩:=hrow.addr (by omega);exact ⟨rd,rcap,by rw [<-hrl]; exact hcell,by rw [gH hr hz]; exact hrow.getI hz⟩
theorem GH (s p:Nat):(s:Int) / (p:Int)%2=((s / p%2:Nat):Int):=by norm_cast
theorem lq (h:i<=16):(2:Nat) ^ i<=65536:=Nat.pow_le_pow_right (by decide) h
theorem mQ (hi:i<=16):Gives prog 229 #[.int .i64 (i:Int)] w (ZJ w (.int .i64 ((2 ^ i:Nat):Int))):=by
 have e:i%((2:Int) ^ IntKind.u64.bits).natAbs=i:=Nat.mod_eq_of_lt (Nat.lt_of_le_of_lt hi (by decide));refine gv (f:=229) ?_;refine cO (bE ?_);refine aT df rfl ⟨ct,trivial⟩ (fun _=>trivial) ?_;refine bG (aS [0,2] [(0,_,_),(2,_,_)] rfl (aD ?_));refine cO (bE ?_);refine aT aX rfl ⟨ct,trivial⟩ (fun _=>trivial) ?_;refine aT (BL rfl) rfl ⟨ct,trivial⟩ (fun _=>trivial) ?_;refine aT J5 rfl ⟨ct,ct,trivial⟩ (fun _=>by rw [e]; omega) ?_;refine ag ?_;refine aW rfl ⟨ZA,by rw [e]⟩
theorem Nl: ∀(n:Nat),pc n<=n:=by
 intro n
 induction n using Nat.strongRecOn with
 | _ n ih =>
  rw [Gl];by_cases h:n=0
  ·subst h; simp [pc]
  ·have:=ih (n / 2) (by omega);omega
theorem Ga {s:Nat} (hs:s<=1000000000):Gives prog 251 #[.int .i64 (s:Int)] w (ZJ w (.int .i64 (pc s:Int))):=by
 have hps:=Nl s;refine gv (f:=251) ?_;refine ag ?_;refine aJ [] (fun x:Nat×Nat=> [(0,none,.int .i64 (x.1:Int)),(3,none,.int .i64 (x.2:Int))])
  (fun x W=>x.1<=s/\x.2+pc x.1=pc s/\Below w.heap.size w W) (fun x=>x.1) (s,0) ⟨ZC,by simp,ZA⟩ ?_
 rintro ⟨c,a⟩ W ⟨hc,hp,hB⟩;dsimp only at hc hp;have hpe:=Gl c;refine ag ?_;refine ai rfl (fun hlt=> ?_) (fun hge=> ?_)
 ·refine fQ (aD (fU (cO (bE ?_))));refine aT aX rfl ⟨ct,trivial⟩ (fun _=>trivial) ?_;refine aT aX rfl ⟨ct,trivial⟩ (fun _=>trivial) ?_;refine aT zF rfl ⟨ct,ct,trivial⟩ (fun _=>by omega) ?_;refine aT nD rfl ⟨ct,ct,trivial⟩ (fun _=>by omega) ?_;refine aT df rfl ⟨ct,trivial⟩ (fun _=>trivial) ?_;refine bG (aS [0,3] [(0,_,_),(3,_,_)] rfl (aD ?_));refine bE ?_;refine aT aX rfl ⟨ct,trivial⟩ (fun _=>trivial) ?_;refine aT zG rfl ⟨ct,ct,trivial⟩ (fun _=>by omega) ?_;refine ag ?_;refine aC (c / 2,a+c%2) ⟨by show c / 2<=s; omega,by show a+c%2+pc (c / 2)=pc s; omega,hB⟩ (hp:= ?_);have e1:((c / 2:Nat):Int)=(c:Int) / 2:=by omega
  have e2:((a+c%2:Nat):Int)=(a:Int)+(c:Int)%2:=by omega
  rw [e1,e2];rfl
 ·have:c=0:=by omega
  subst this;refine ag ?_;refine aW rfl ⟨hB,?_⟩;have:a=pc s:=by simpa [pc] using hp
  rw [this]
theorem Jk {ns:List Nd} {set:Nat} {t:Int} {x:Nd} (hd:SL (sliceT bC) F w dv d) (hw:WfD d) (hn:SL GG G w nv ns) (hok: ∀x∈ns,NdOK d m x) (h16:ns.length<=16) (hi:ns[i]?=some x) (hs:set<=1000000000) (ht:0<=t/\t<=1000000) :
  Gives prog 252 #[dv,nv,.int .i64 (set:Int),.int .i64 (i:Int),.int .i64 t] w (ZJ w (.bool (dec (qm d (bS ns) set (some x.endo.toNat,t+x.gap))))):=by
 obtain ⟨A,cap,rfl,_⟩:=hd.form;obtain ⟨B,bcap,rfl,_⟩:=hn.form;have hil:=(ZE hi).1;have hx:=hok x (ZF hi);obtain ⟨nd,rfl⟩:=hn.addr (by omega);obtain ⟨ad,rfl⟩:=hd.addr (by have:=hx.o1; omega);obtain ⟨xo,hxo⟩: ∃o:Nat,x.endo=o:=⟨x.endo.toNat,by have:=hx.e0; omega⟩;have hxo':x.endo.toNat=xo:=by omega
 have hxl:xo<d.length:=by have:=hx.e1; omega
 have hg0:=hx.g0;have hg1:=hx.g1;refine gv (f:=252) ?_;refine ag ?_;refine aJ [0,1,2,3,4] (fun j:Nat=> [(11,none,.int .i64 (j:Int))])
  (fun j W=>j<=ns.length/\Below w.heap.size w W/\ ∀(k:Nat) v,k<j->(bS ns)[k]?=some v->set.testBit k=false->gK d (some x.endo.toNat,t+x.gap) v) (fun j=>ns.length-j) 0 ⟨ZB,ZA,fun k v hk=>by omega⟩ ?_
 rintro j W ⟨hj,hB,hall⟩;have hdW:=hd.below hB;have hnW:=hn.below hB;refine ag ?_;refine ai rfl (fun hlt=> ?_) (fun hge=> ?_)
 ·obtain ⟨y,hy,hym⟩:=bD (l:=ns) (k:=j) (by omega);have hyo:=hok y hym;obtain ⟨yo,hyo1⟩: ∃o:Nat,y.office=o:=⟨y.office.toNat,by have:=hyo.o0; omega⟩;have hyl:yo<d.length:=by have:=hyo.o1; omega
  obtain ⟨rd,rc,hr1,hr2⟩:=zg hdW hw hxl hyl;have hrng:=hw.rng xo yo hxl hyl;have hxc:=iL hnW hi;have hyc:=iL hnW hy;have h6:W.cell? ((nd.add ((i:Int).toNat*7)).add 6)=some (.int .i64 (xo:Int)):=by rw [<-hxo]; exact hxc 6 _ rfl
  have h2:W.cell? ((nd.add ((j:Int).toNat*7)).add 2)=some (.int .i64 (yo:Int)):=by rw [<-hyo1]; exact hyc 2 _ rfl
  have hp:=Nat.two_pow_pos j;have hw2:=hyo.w2;refine ag ?_;refine bg mixed (by kernel_rfl) ?_;refine aZ ?_;refine aB rfl h6 ?_;refine aZ ?_;refine aB rfl hr1 ?_;refine aZ ?_;refine aB rfl h2 ?_;refine aZ ?_;refine aB rfl hr2 ?_;refine aZ ?_;refine bR [0,1,2,3,4,11,12] rfl fun w1 b1=> ?_;refine ag ?_;refine bg mixed (by kernel_rfl) ?_;refine aZ ?_;have hnW1:=hnW.below b1;have hxc1:=iL hnW1 hi;have hyc1:=iL hnW1 hy;refine fE (.ex (.int .i64 ((2 ^ j:Nat):Int))) trivial rfl (fun _ w' hb'=>(mQ (i:=j) (by omega)).mono fun u w'' ⟨h1,h2⟩=>⟨h1,h2⟩) ?_;refine bL zG rfl ⟨ct,ct,trivial⟩ (fun _=>by omega) ?_;refine bL zF rfl ⟨ct,ct,trivial⟩ (fun _=>⟨Int.ediv_nonneg (by omega) (by omega),by omega,by omega⟩) ?_;refine aZ ?_;refine aB rfl (hxc1 5 _ rfl) ?_;refine bL nD rfl ⟨id,id,trivial⟩ (fun _=>by omega) ?_;refine bL aX rfl ⟨ct,trivial⟩ (fun _=>trivial) ?_;refine bL nD rfl ⟨id,id,trivial⟩ (fun _=>by omega) ?_;refine aZ ?_;refine aB rfl (hyc1 4 _ rfl) ?_;refine aZ ?_;refine bR [0,1,2,3,4,11,12,60] rfl fun w2 b2=> ?_;refine aD ?_;have hB2:=hB.step (b1.step b2);rw [GH];have hbt:=zx set j;have hcan:gK d (some x.endo.toNat,t+x.gap) y.u↔at2 d xo yo≠ -1/\t+x.gap+at2 d xo yo<=y.high:=by
   unfold gK;show at2 d x.endo.toNat y.office.toNat≠ -1/\t+x.gap+at2 d x.endo.toNat y.office.toNat<=y.high↔_;rw [hxo',show y.office.toNat=yo by omega]
  refine au rfl (fun hbad=> ?_) (fun hgood=> ?_)
  ·refine ag ?_;refine aW rfl ⟨hB2,?_⟩;rw [az];intro h;by_cases hb:set.testBit j=true
   ·rw [hb] at hbt;have:set / 2 ^ j%2=1:=by simpa using hbt.symm
    rw [this] at hbad;simp at hbad
   ·have hb':set.testBit j=false:=by simpa using hb
    have:=hcan.1 (h j y.u (kT hy) hb');simp at hbad;omega
  ·refine ag ?_;refine aC (j+1) ⟨by omega,hB2,fun k v hk hv hb=> ?_⟩;by_cases hkj:k<j
   ·exact hall k v hkj hv hb
   ·have:k=j:=by omega
    subst this;rw [kT hy] at hv;cases hv;rw [hb] at hbt;have h0:set / 2 ^ k%2=0:=by
     have h1: ¬set / 2 ^ k%2=1:=by simpa using hbt.symm
     have:=Nat.mod_two_eq_zero_or_one (set / 2 ^ k);omega
    rw [h0] at hgood;rw [hcan];simp at hgood;omega
 ·refine ag ?_;refine aW rfl ⟨hB,?_⟩;rw [ay];intro k v hv hb;exact hall k v (by have:=(ZE hv).1; simp [bS] at this; omega) hv hb
abbrev RL (w:World) (v:Value) (L:List RS):Prop:=OwnS w 272 4 v L.length (L.flatMap di)
theorem FK (L:List RS): ∀x∈L,(di x).length=4:=fun _ _=>rfl
theorem RL.sl (h:RL w v L) (hL:L.length<=9223372036854775807):SL Oo (fun _=>True) w v L:=nX (T:=Oo) di (fun _ _=>rfl) h (fun _ _=>trivial) hL
theorem qE (h:RL w (.slice (some ad) n cap) L) (hL:L.length<=9223372036854775807) {s:RS} (hs:L[i]?=some s) :
  ∀ (j:Nat) v,(di s)[j]?=some v->w.cell? ((ad.add ((i:Int).toNat*4)).add j)=some v:=mh di (fun _ _ _ _ h=>h) (RL.sl h hL) hs
theorem si {A:Option Addr} (h:RL w (.slice A n cap) L) (hL:0<L.length): ∃g,A=some ⟨g,0,none⟩:=by
 obtain ⟨A',cap',hv,_,_,hc⟩:=h.form;have:0<(L.flatMap di).length:=by rw [tV di 4 L (FK L)]; omega
 obtain ⟨g',hA,_⟩:=hc 0 _ (ZD this);simp only [Value.slice.injEq] at hv;rw [hv.1,hA];exact ⟨g',rfl⟩
theorem ug {w':World} {v:Option Nat} (h:w.grownBy w' v) (hF: ∀k,F k->v≠some k):Kept F w w':=bn fun k hk hlt=>h.block k hlt (fun e=>hF k hk e.symm)
theorem je {w1 w2:World} {v:Option Nat} (h:w.grownBy w1 v) (hb:Below w1.heap.size w1 w2):w.grownBy w2 v :=
 ⟨hb.os.trans h.os,hb.tape.trans h.tape,hb.output.trans h.output,Nat.le_trans h.size hb.size,fun k hk hne=>(hb.block k (Nat.lt_of_lt_of_le hk h.size)).trans (h.block k hk hne)⟩
theorem uf {w1 w2:World} {v u:Option Nat} (h:w.grownBy w1 v) (hb:w1.grownBy w2 u) (hu: ∀g,u=some g->v=some g∨w.heap.size<=g):w.grownBy w2 v :=
 ⟨hb.os.trans h.os,hb.tape.trans h.tape,hb.output.trans h.output,Nat.le_trans h.size hb.size,fun k hk hne=>(hb.block k (Nat.lt_of_lt_of_le hk h.size) (fun e=>by
  rcases hu k e.symm with h1|h1
  ·exact hne h1.symm
  ·omega)).trans (h.block k hk hne)⟩
def Done (d:bA) (us:List U) (s:RS) (L:List RS) (i:Nat):Prop:= ∀(j:Nat) v,j<i->us[j]?=some v->s.set.testBit j=false->gK d (gm us s) v->qm d us (s.set ||| 1 <<< j) (nxt d (gm us s) v)->Has L (s.set ||| 1 <<< j) j (kW d (gm us s) v)
theorem Done.lat {d:bA} {us:List U} {s:RS} {L L':List RS} {i b:Nat} (h:Done d us s L i) (hl:Lat b L L'):Done d us s L' i:=fun j v hj hv hb hc ho=>(h j v hj hv hb hc ho).lat hl
theorem F3 {ns:List Nd} {r b:Nat} {s:RS} (hd:SL (sliceT bC) F w dv d) (hw:WfD d) (hn:SL GG G w nv ns) (hok: ∀x∈ns,NdOK d m x) (h16:ns.length<=16) (hL:RL w lv L) (hF: ∀q,F q->lv.ownBlock≠some q) (hG: ∀q,G q->lv.ownBlock≠some q)
 (hdp:DP d (bS ns) r b L) (hb:b<=L.length) (hk:L[k]?=some s) (hkb:k<b) :
  Gives prog 230 #[dv,nv,lv,.int .i64 (k:Int),.int .i64 (r:Int),.int .i64 (b:Int)] w fun u w'=>w.grownBy w' lv.ownBlock/\(∀g,u.ownBlock=some g->lv.ownBlock=some g∨w.heap.size<=g)/\ ∃L',RL w' u L'/\DP d (bS ns) r b L'/\Lat b L L'/\(pc s.set=r->Done d (bS ns) s L' ns.length):=by
 obtain ⟨A,cap,rfl,_⟩:=hd.form;obtain ⟨B,bcap,rfl,_⟩:=hn.form;obtain ⟨C,ccap,rfl,_⟩:=hL.form;have husl:(bS ns).length=ns.length:=by simp [bS]
 have hfew:=hdp.few (by omega);have hkl:=(ZE hk).1;have hs:=hdp.each s (ZF hk);obtain ⟨cg,rfl⟩:=si hL (by omega);have hslast:s.last<ns.length:=by have:=hs.last; omega
 obtain ⟨x,hx,hxm⟩:=bD (l:=ns) (k:=s.last) hslast;have hxo:=hok x hxm;have hst:gm (bS ns) s=(some x.endo.toNat,s.time+x.gap):=rZ (kT hx);have hset:s.set<65536:=by have h1:=hs.bits; have h2:=lq (i:=(bS ns).length) (by omega); omega
 obtain ⟨nd,rfl⟩:=hn.addr (by omega);obtain ⟨ad,rfl⟩:=hd.addr (by have:=hxo.o1; omega);obtain ⟨xo,hxe⟩: ∃o:Nat,x.endo=o:=⟨x.endo.toNat,by have:=hxo.e0; omega⟩;have hxe':x.endo.toNat=xo:=by omega
 have hxl:xo<d.length:=by have:=hxo.e1; omega
 have hg0:=hxo.g0;have hg1:=hxo.g1;have ht0:=hs.t0;have ht1:=hs.t1;have hwin:=zV hok;refine gv (f:=230) ?_;refine ag ?_;refine aF rfl (qE hL (by omega) hk) ?_;refine aM rfl Km rfl is272.q rfl rfl ?_;rintro g1 w1 f1;refine ag ?_;have hg1a:=f1.at_;have hg1s:=f1.size;have hcg:cg<w.heap.size:=hL.lt rfl;refine aj rfl (f1.blk.fld rfl) ?_;refine aA rfl (Ga (s:=s.set) (by omega)) ?_;rintro y w2 ⟨c2,rfl⟩;have hgr2:w.grownBy w2 (some cg):=je (je ⟨rfl,rfl,rfl,ZC,fun _ _ _=>rfl⟩ f1.below) c2;have hL2:RL w2 (.slice (some ⟨cg,0,none⟩) L.length ccap) L:=(hL.below f1.below).below c2;have hB2:Blk w2 g1 272 (di s):=f1.blk.next c2;refine ag ?_;refine ai rfl (fun hne=> ?_) (fun heq=> ?_)
 ·refine ag ?_;refine aW rfl ⟨hgr2,fun g hg=> .inl hg,L,hL2,hdp,Lat.refl hb,fun e=>by rw [e] at hne; exact absurd rfl hne⟩
 have hpr:pc s.set=r:=by omega
 refine ag ?_;refine aJ [0,1,3,5,13] (fun x:Nat×Value×List RS=> [(2,none,x.2.1),(14,none,.int .i64 (x.1:Int))])
  (fun x W=>x.1<=ns.length/\w.grownBy W (some cg)/\RL W x.2.1 x.2.2/\(∀g,x.2.1.ownBlock=some g->g=cg∨w.heap.size<=g/\g≠g1)/\Blk W g1 272 (di s)/\DP d (bS ns) r b x.2.2/\Lat b L x.2.2/\Done d (bS ns) s x.2.2 x.1) (fun x=>ns.length-x.1) (0,.slice (some ⟨cg,0,none⟩) L.length ccap,L) ⟨ZB,hgr2,hL2,fun g hg=>by simp [Value.ownBlock] at hg; exact .inl hg.symm,hB2,hdp,Lat.refl hb,fun j v hj=>by omega⟩ ?_
 rintro ⟨i,cv,M⟩ W ⟨hi,hgW,hM,hcv,hBW,hdpM,hlat,hdone⟩;dsimp only at hi hgW hM hcv hBW hdpM hlat hdone;have hfewM:=hdpM.few (by omega);have hbM:b<=M.length:=by
  have h1:=congrArg List.length hlat.2.1;simp only [List.length_take] at h1;omega
 have hkM:M[k]?=some s:=by
  have h1:(M.take b)[k]?=(L.take b)[k]?:=by rw [hlat.2.1]
  rw [List.getElem?_take_of_lt hkb,List.getElem?_take_of_lt hkb,hk] at h1;exact h1
 have hdW:SL (sliceT bC) F W (.slice (some ad) d.length cap) d:=hd.mono (ug hgW hF);have hnW:SL GG G W (.slice (some nd) ns.length bcap) ns:=hn.mono (ug hgW hG);have hcvne: ∀g,cv.ownBlock=some g->g≠g1:=fun g hg=>by
  rcases hcv g hg with h|h
  ·omega
  ·exact h.2
 obtain ⟨CM,cmcap,rfl,_⟩:=hM.form;obtain ⟨mg,rfl⟩:=si hM (by have:=(ZE hkM).1; omega);refine ag ?_;refine ai rfl (fun hlt=> ?_) (fun hge=> ?_)
 ·obtain ⟨y,hy,hym⟩:=bD (l:=ns) (k:=i) (by omega);have hyo:=hok y hym;obtain ⟨yo,hye⟩: ∃o:Nat,y.office=o:=⟨y.office.toNat,by have:=hyo.o0; omega⟩;have hyl:yo<d.length:=by have:=hyo.o1; omega
  obtain ⟨rd,rc,hr1,hr2⟩:=zg hdW hw hxl hyl;have hrng:=hw.rng xo yo hxl hyl;have hxc:=iL hnW hx;have hyc:=iL hnW hy;have h6:W.cell? ((nd.add ((s.last:Int).toNat*7)).add 6)=some (.int .i64 (xo:Int)):=by rw [<-hxe]; exact hxc 6 _ rfl
  have h2:W.cell? ((nd.add ((i:Int).toNat*7)).add 2)=some (.int .i64 (yo:Int)):=by rw [<-hye]; exact hyc 2 _ rfl
  have hp:=Nat.two_pow_pos i;have hp16:=lq (i:=i) (by omega);have hw0:=hyo.w0;have hw1:=hyo.w1;have hw2:=hyo.w2;have hbt:=zx s.set i;have hfar:far d (gm (bS ns) s).1 y.u=at2 d xo yo:=by
   rw [hst];show at2 d x.endo.toNat y.office.toNat=_;rw [hxe',show y.office.toNat=yo by omega]
  have hcan:gK d (gm (bS ns) s) y.u↔at2 d xo yo≠ -1/\s.time+x.gap+at2 d xo yo<=y.high:=by
   unfold gK;rw [hfar,hst];exact Iff.rfl
  have hbeg:kW d (gm (bS ns) s) y.u=max y.low (s.time+x.gap+at2 d xo yo):=by
   unfold kW;rw [hfar,hst];rfl
  have skip: ∀W',(¬(s.set.testBit i=false/\gK d (gm (bS ns) s) y.u/\qm d (bS ns) (s.set ||| 1 <<< i) (nxt d (gm (bS ns) s) y.u)))->Below W.heap.size W W'->i+1<=ns.length/\w.grownBy W' (some cg)/\RL W' (.slice (some ⟨mg,0,none⟩) M.length cmcap) M/\(∀g,(Value.slice (some ⟨mg,0,none⟩) M.length cmcap).ownBlock=some g->g=cg∨w.heap.size<=g/\g≠g1)/\Blk W' g1 272 (di s)/\DP d (bS ns) r b M/\Lat b L M/\Done d (bS ns) s M (i+1):=by
   intro W' hno hb';refine ⟨by omega,je hgW hb',hM.below hb',hcv,hBW.next hb',hdpM,hlat,fun j v hj hv h1 h2 h3=> ?_⟩;by_cases hji:j<i
   ·exact hdone j v hji hv h1 h2 h3
   ·have:j=i:=by omega
    subst this;rw [kT hy] at hv;cases hv;exact absurd ⟨h1,h2,h3⟩ hno
  refine ag ?_;refine bg mixed (by kernel_rfl) ?_;refine aZ ?_;refine aB rfl (hBW.fld rfl) ?_;refine aZ ?_;refine aB rfl h6 ?_;refine aZ ?_;refine aB rfl hr1 ?_;refine aZ ?_;refine aB rfl h2 ?_;refine aZ ?_;refine aB rfl hr2 ?_;refine aZ ?_;refine bR [0,1,2,3,5,13,14,15] rfl fun w3 b3=> ?_;refine ag ?_;refine bg mixed (by kernel_rfl) ?_;refine aZ ?_;have hB3:=hBW.next b3;refine aB rfl (hB3.fld rfl) ?_;refine aZ ?_;refine fE (.ex (.int .i64 ((2 ^ i:Nat):Int))) trivial rfl (fun _ w' hb'=>(mQ (i:=i) (by omega)).mono fun u w'' ⟨h1,h2⟩=>⟨h1,h2⟩) ?_;refine bL zG rfl ⟨ct,ct,trivial⟩ (fun _=>by omega) ?_;refine bL zF rfl ⟨ct,ct,trivial⟩ (fun _=>⟨Int.ediv_nonneg (by omega) (by omega),by omega,by omega⟩) ?_;refine aZ ?_;refine bR [0,1,2,3,5,13,14,15,61] rfl fun w4 b4=> ?_;refine aD ?_;have b34:=b3.step b4;rw [GH];obtain ⟨bq,hbq⟩: ∃bq,bq=s.set / 2 ^ i%2:=⟨_,rfl⟩;rw [<-hbq] at hbt;rw [<-hbq];refine au rfl (fun hskip=> ?_) (fun hgo=> ?_)
  ·refine ag ?_;refine aC (i+1,.slice (some ⟨mg,0,none⟩) M.length cmcap,M) (skip w4 ?_ b34);rintro ⟨h1,h2,_⟩;rw [h1] at hbt;have h3: ¬bq=1:=by simpa using hbt.symm
   have h4:=(hcan.1 h2).1;simp at hskip;omega
  have hbit:s.set.testBit i=false:=by
   rw [hbt];simp at hgo;simp;omega
  have hway:at2 d xo yo≠ -1:=by
   simp at hgo;omega
  have hB4:=hB3.next b4;have hnW4:=hnW.below b34;have hxc4:=iL hnW4 hx;have hyc4:=iL hnW4 hy;refine ag ?_;refine bg mixed (by kernel_rfl) ?_;refine aZ ?_;refine aB rfl (hB4.fld rfl) ?_;refine aZ ?_;refine aB rfl (hB4.fld rfl) ?_;refine aZ ?_;refine aB rfl (hxc4 5 _ rfl) ?_;refine bL nD rfl ⟨ct,ct,trivial⟩ (fun _=>by omega) ?_;refine bL aX rfl ⟨ct,trivial⟩ (fun _=>trivial) ?_;refine bL nD rfl ⟨ct,ct,trivial⟩ (fun _=>by omega) ?_;refine aZ ?_;refine aB rfl (hyc4 3 _ rfl) ?_;refine bL nA rfl ⟨ct,ct,trivial⟩ (fun _=>trivial) ?_;refine aZ ?_;refine bR [0,1,2,3,5,13,14,15,16] rfl fun w5 b5=> ?_;refine ag ?_;refine bg mixed (by kernel_rfl) ?_;refine aZ ?_;have b35:=b34.step b5;have hB5:=hB4.next b5;have hnW5:=hnW4.below b5;have hyc5:=iL hnW5 hy;have hdW5:=hdW.below b35;rw [show max (s.time+x.gap+at2 d xo yo) y.low=kW d (gm (bS ns) s) y.u by rw [hbeg]; omega];obtain ⟨t,htt⟩: ∃t,t=kW d (gm (bS ns) s) y.u:=⟨_,rfl⟩;have htl:0<=t/\t<=4000000:=by rw [htt,hbeg]; omega
  have hnxt:nxt d (gm (bS ns) s) y.u=(some y.endo.toNat,t+y.gap):=by rw [htt]; rfl
  rw [<-htt];have hsum:((s.set:Int)+((2 ^ i:Nat):Int))=((s.set ||| 1 <<< i:Nat):Int):=by rw [<-CQ hbit]; simp
  have hor:s.set ||| 1 <<< i<=1000000000:=by rw [<-CQ hbit]; omega
  have hopen:t<=y.high-> ∀w',Below w5.heap.size w5 w'->Gives prog 252 #[.slice (some ad) d.length cap,.slice (some nd) ns.length bcap,.int .i64 ((s.set:Int)+((2 ^ i:Nat):Int)),.int .i64 (i:Int),.int .i64 t] w' fun u w''=>Below w'.heap.size w' w''/\u= .bool (dec (qm d (bS ns) (s.set ||| 1 <<< i) (nxt d (gm (bS ns) s) y.u))):=fun hth w' hb'=>by
   rw [hsum,hnxt];exact Jk (hdW5.below hb') hw (hnW5.below hb') hok h16 hy hor ⟨htl.1,by omega⟩
  refine aB rfl (hyc5 4 _ rfl) ?_;refine aZ ?_;refine aB rfl (hB5.fld rfl) ?_;refine aZ ?_;refine dw (.ex (.int .i64 ((2 ^ i:Nat):Int))) trivial rfl rfl ie229.q rfl ct (ax rfl id aP) (fun _ w' hb'=>(mQ (i:=i) (by omega)).mono fun u w'' ⟨h1,h2⟩=>⟨h1,h2⟩) ?_;refine bL nD rfl ⟨id,id,trivial⟩ (fun _=>by omega) ?_;refine aZ ?_;refine dw (.ex (.bool (dec (qm d (bS ns) (s.set ||| 1 <<< i) (nxt d (gm (bS ns) s) y.u))))) trivial rfl rfl ie252.q rfl ct (ax rfl id (ax rfl id (ax rfl id (ax rfl id (ax rfl id aP))))) (fun hG w' hb'=>(hopen (by simp [aV] at hG; omega) w' hb').mono fun u w'' ⟨h1,h2⟩=>⟨h1,h2⟩) ?_;refine aZ ?_;refine bR [0,1,2,3,5,13,14,15,16,98] rfl fun w6 b6=> ?_;refine aD ?_;have b36:=b35.step b6;refine au rfl (fun hskip2=> ?_) (fun hgo2=> ?_)
  ·refine ag ?_;refine aC (i+1,.slice (some ⟨mg,0,none⟩) M.length cmcap,M) (skip w6 ?_ b36);rintro ⟨_,h2,h3⟩;have h4:=(hcan.1 h2).2;rw [ay h3] at hskip2;simp at hskip2;rw [htt,hbeg] at hskip2;omega
  have hth:t<=y.high:=by
   cases hq:dec (qm d (bS ns) (s.set ||| 1 <<< i) (nxt d (gm (bS ns) s) y.u))<;>simp [hq] at hgo2;omega
  have hop:qm d (bS ns) (s.set ||| 1 <<< i) (nxt d (gm (bS ns) s) y.u):=by
   cases hq:dec (qm d (bS ns) (s.set ||| 1 <<< i) (nxt d (gm (bS ns) s) y.u)) with
   | true=>exact dec_iff.1 hq
   | false=>simp [hq] at hgo2
  have hcb:gK d (gm (bS ns) s) y.u:=hcan.2 ⟨hway,by rw [htt,hbeg] at hth; omega⟩;obtain ⟨hnok,hpcn,_⟩:=hs.next hwin (kT hy) hbit hcb (k:=(k:Int)) (by omega);rw [<-htt] at hnok;have hB6:=hB5.next b6;have hM6:=hM.below b36;refine ag ?_;refine dE mixed fun W7 hb7=> ?_;refine dL .weak 10 (by kernel_rfl) (by kernel_rfl) rfl rfl hb7 ?_;refine aZ ?_;refine aB rfl (hB6.fld rfl) ?_;refine aZ ?_;refine fE (.ex (.int .i64 ((2 ^ i:Nat):Int))) trivial rfl (fun _ w' hb'=>(mQ (i:=i) (by omega)).mono fun u w'' ⟨h1,h2⟩=>⟨h1,h2⟩) ?_;refine bL nD rfl ⟨ct,ct,trivial⟩ (fun _=>by omega) ?_;refine aZ ?_;refine jA [0,1,2,3] [.tmp 99,.tmp 100,.tmp 105,.tmp 106] [.int .i64 t,.int .i64 (i:Int),.int .i64 ((s.set:Int)+((2 ^ i:Nat):Int)),.int .i64 (k:Int)] rfl rfl rfl rfl (ax rfl ct (ax rfl ct (ax rfl ct (ax rfl ct aP)))) (by kernel_rfl) ?_;refine qV rfl Km ?_;refine dD (ii [0,1,2,3,5,13,14,15,16,107] [(0,_,_),(1,_,_),(2,_,_),(3,_,_),(5,_,_),(13,_,_),(14,_,_),(15,_,_),(16,_,_),(107,_,_)] rfl [17] rfl fun vs w7 b7 hs7=>ek ?_);obtain ⟨v17,rfl,h17⟩:=Sats.one hs7;obtain ⟨g7,rfl,hg7,hB7⟩:=h17;refine bV (by kernel_rfl) (by kernel_rfl) rfl ?_;refine aQ rfl rfl rfl hB7 is272.q rfl rfl rfl ?_;rintro w8 hB8 hbut8 hsz8
  rw [hsum] at hB8;refine bG (aS [0,1,2,3,5,13,14,15,16,17] [(0,_,_),(1,_,_),(2,_,_),(3,_,_),(5,_,_),(13,_,_),(14,_,_),(15,_,_),(16,_,_),(17,_,_)] rfl (dJ ?_));refine ed rfl (aS [0,1,2,3,5,13,14,15,16,17] [(0,_,_),(1,_,_),(2,_,_),(3,_,_),(5,_,_),(13,_,_),(14,_,_),(15,_,_),(16,_,_),(17,_,_)] rfl (aD ?_));refine ag ?_;have hB8':Blk w8 g7 272 (di ⟨t,i,s.set ||| 1 <<< i,(k:Int)⟩):=hB8;have b37:=b36.step b7;have hs36:=b36.size;have hs37:=b37.size;have hsW:=hgW.size;have b38:Below W.heap.size W w8:=b37.grown hbut8 b37.size (fun q hq=>by cases hq; omega);have hM8:=hM.below b38;have hBW8:=hBW.next b38;have hgW8:=je hgW b38;have hget8:=fun (j:Nat) (s':RS) (hs':M[j]?=some s')=>qE hM8 (by omega) hs';refine aJ [0,1,2,3,5,13,14,16,17] (fun a:Nat=> [(18,none,.int .i64 (a:Int))])
   (fun a W'=>b<=a/\a<=M.length/\Below w8.heap.size w8 W'/\ ∀(j:Nat) s',b<=j->j<a->M[j]?=some s'-> ¬(s'.set=s.set ||| 1 <<< i/\s'.last=i)) (fun a=>M.length-a) b ⟨ZC,hbM,ZA,fun j s' h1 h2=>by omega⟩ ?_
  rintro a W9 ⟨ha1,ha2,hB9,hno9⟩;have hM9:=hM8.below hB9;have hB79:=hB8'.next hB9;obtain ⟨sa,hsa⟩: ∃sa:RS,a<M.length->M[a]?=some sa:=by
   by_cases h:a<M.length
   ·exact ⟨M[a],fun _=>ZD h⟩
   ·exact ⟨s,fun h'=>absurd h' h⟩
  have hgeta:a<M.length-> ∀(j:Nat) v,(di sa)[j]?=some v->W9.cell? ((Addr.add ⟨mg,0,none⟩ ((a:Int).toNat*4)).add j)=some v:=fun h=>qE hM9 (by omega) (hsa h);refine ag ?_;refine bg mixed (by kernel_rfl) ?_;refine aZ ?_;refine xz rfl rfl io3.q rfl id (fun h=>hgeta (by simp [aV] at h; omega) 2 _ rfl) ?_;refine aZ ?_;refine aB rfl (hB79.fld rfl) ?_;refine aZ ?_;refine xz rfl rfl io3.q rfl id (fun h=>hgeta (by simp [aV] at h; omega) 1 _ rfl) ?_;refine aZ ?_;refine bR [0,1,2,3,5,13,14,16,17,18,131] rfl fun w10 b10=> ?_;refine aD ?_;have hB10:=hB9.step b10;refine au rfl (fun hcont=> ?_) (fun hstop=> ?_)
  ·have hal:a<M.length:=by
    simp at hcont;omega
   refine ag ?_;refine aC (a+1) ⟨by omega,by omega,hB10,fun j s' h1 h2 h3=> ?_⟩;by_cases hja:j<a
   ·exact hno9 j s' h1 hja h3
   ·have:j=a:=by omega
    subst this;rw [hsa hal] at h3;cases h3;rintro ⟨e1,e2⟩;simp [e1,e2] at hcont
  have b310:=b38.step hB10;have hM10:=hM.below b310;have hB710:=hB8'.next hB10;have hBW10:=hBW.next b310;have hgW10:=je hgW b310;refine ag ?_;refine ai rfl (fun hend=> ?_) (fun hfound=> ?_)
  ·have hae:a=M.length:=by omega
   subst hae;obtain ⟨hdp',hlat'⟩:=hdpM.app hnok (by rw [hpcn,hpr]) (by show (k:Int)<b; omega) hbM (fun j s' h1 h2=>hno9 j s' h2 (ZE h1).1 h1);refine ag ?_;refine aF rfl (fun _ _ h=>hB710.fld h) ?_;refine ak 272 _ rfl rfl rfl HZ (aa rfl ct ah) rfl rfl rfl rfl rfl ?_;rintro g11 w11 f11;refine aK (di ⟨t,i,s.set ||| 1 <<< i,(k:Int)⟩) rfl rfl Hf rfl (hM10.below f11.below) rfl rfl (fun j v hj=>⟨⟨g11,0,none⟩,rfl,f11.blk.fld hj⟩) (fun v hv=>by simp [di] at hv; rcases hv with rfl|rfl|rfl|rfl<;>rfl) (by omega) (by omega) ?_;rintro cv' w12 o12 hg12 hn12;refine ag ?_;have b311:=b310.step f11.below;have hs311:=b311.size;have hcv': ∀g,cv'.ownBlock=some g->g=cg∨w.heap.size<=g/\g≠g1:=fun g hg=>by
    rcases hn12 with h|h
    ·exact hcv g (by rw [<-h]; exact hg)
    ·rw [h] at hg; cases hg;have:=hBW.lt;exact .inr ⟨by omega,by omega⟩
   refine aC (i+1,cv',M++ [⟨t,i,s.set ||| 1 <<< i,(k:Int)⟩]) ⟨by show i+1<=ns.length; omega,uf (je hgW b311) hg12 (fun g hg=> ?_),?_,hcv',?_,hdp',hlat.trans hlat',?_⟩
   ·rcases hcv g hg with h|h
    ·exact .inl (by rw [h])
    ·exact .inr h.1
   ·show OwnS w12 _ 4 cv' (M++ [_]).length ((M++ [_]).flatMap di);rw [List.flatMap_append];simpa using o12
   ·have hb11:=hBW10.next f11.below;exact (hg12.block g1 hb11.lt (fun e=>hcvne g1 e.symm rfl)).trans hb11
   ·intro j v hj hv h1 h2 h3;by_cases hji:j<i
    ·exact (hdone j v hji hv h1 h2 h3).lat hlat'
    ·have:j=i:=by omega
     subst this;rw [kT hy] at hv;cases hv;exact ⟨⟨t,j,s.set ||| 1 <<< j,(k:Int)⟩,List.mem_append_right _ (List.mem_singleton.2 rfl),rfl,rfl,by show t<=_; omega⟩
  have hal:a<M.length:=by omega
  have hmatch:sa.set=s.set ||| 1 <<< i/\sa.last=i:=by
   simp [hal] at hstop;omega
  have hsaM:=hsa hal;have hga:=qE hM10 (by omega) hsaM;refine ag ?_;refine aj rfl (hga 0 _ rfl) ?_;refine ag ?_;refine ai rfl (fun hlate=> ?_) (fun hearly=> ?_)
  ·obtain ⟨hdp',hlat'⟩:=hdpM.set hsaM ha1 hnok (by show (k:Int)<b; omega) hbM hmatch.1 hmatch.2 (by show t<=sa.time; omega);refine ag ?_;refine aF rfl (fun _ _ h=>hB710.fld h) ?_;refine ag ?_;refine xy rfl is272.q rfl rfl hM10 (by omega) rfl rfl rfl ?_;rintro w12 o12 hg12 hsz12;refine ag ?_;rw [qY di 4 M (FK M) (a:Int).toNat ⟨t,i,s.set ||| 1 <<< i,(k:Int)⟩ (by omega) rfl,show (a:Int).toNat=a by omega] at o12;refine aC (i+1,.slice (some ⟨mg,0,none⟩) M.length cmcap,M.set a ⟨t,i,s.set ||| 1 <<< i,(k:Int)⟩) ⟨by show i+1<=ns.length; omega,uf hgW10 hg12 (fun g hg=> ?_),?_,hcv,?_,hdp',hlat.trans hlat',?_⟩
   ·rcases hcv g hg with h|h
    ·exact .inl (by rw [h])
    ·exact .inr h.1
   ·show OwnS w12 _ 4 _ (M.set a _).length ((M.set a _).flatMap di);rw [List.length_set];exact o12
   ·exact (hg12.block g1 hBW10.lt (fun e=>hcvne g1 e.symm rfl)).trans hBW10
   ·intro j v hj hv h1 h2 h3;by_cases hji:j<i
    ·exact (hdone j v hji hv h1 h2 h3).lat hlat'
    ·have:j=i:=by omega
     subst this;rw [kT hy] at hv;cases hv;exact ⟨⟨t,j,s.set ||| 1 <<< j,(k:Int)⟩,List.mem_iff_getElem?.2 ⟨a,List.getElem?_set_self hal⟩,rfl,rfl,by show t<=_; omega⟩
  ·refine ag ?_;refine aC (i+1,.slice (some ⟨mg,0,none⟩) M.length cmcap,M) ⟨by show i+1<=ns.length; omega,hgW10,hM10,hcv,hBW10,hdpM,hlat,?_⟩;intro j v hj hv h1 h2 h3;by_cases hji:j<i
   ·exact hdone j v hji hv h1 h2 h3
   ·have:j=i:=by omega
    subst this;rw [kT hy] at hv;cases hv;exact ⟨sa,ZF hsaM,hmatch.1,hmatch.2,by omega⟩
 ·have hie:i=ns.length:=by omega
  subst hie;refine ag ?_;refine aW rfl ⟨hgW,fun g hg=> ?_,M,hM,hdpM,hlat,fun _=>hdone⟩;rcases hcv g hg with h|h
  ·exact .inl (by rw [h]; rfl)
  ·exact .inr h.1
def dB (e:Ev):Ev:=if e.low>e.high∨e.low>1000000∨e.high<0 then {e with low:=1,high:=0} else {e with low:=max e.low 0,high:=min e.high 1000000}
theorem clip_ok:(dB e).low<=(dB e).high↔dF e<=bM e:=by
 unfold dB dF bM
 split<;>(dsimp only; omega)
theorem sI (h:dF e<=bM e):(dB e).low=dF e/\(dB e).high=bM e:=by
 unfold dF bM at h;unfold dB dF bM
 split<;>(dsimp only; omega)
theorem nR (e:Ev):(dB e).office=e.office/\(dB e).needs=e.needs:=by
 unfold dB
 split<;>exact ⟨rfl,rfl⟩
def NY (e:Ev) (nv:Value):List Value:= [.int .i64 e.office,.int .i64 e.low,.int .i64 e.high,nv]
theorem sj {A:Option Addr} {c:Nat}:Gives prog 250 #[.agg #[.int .i64 e.office,.int .i64 e.low,.int .i64 e.high,.slice A n c]] w fun x w'=>Below w.heap.size w w'/\x= .agg (NY (dB e) (.slice A n c)).toArray:=by
 refine gv (f:=250) ?_;refine ag ?_;refine aG rfl rfl rfl rfl ?_;rintro g1 w1 f1;refine dC rfl rfl nY ?_;rintro g2 w2 f2;refine ag ?_;have ha1:=f1.at_;have ha2:=f2.at_;have hs1:=f1.size;have hs2:=f2.size;have hb2:=f1.below.step f2.below;have hB1:=f1.blk.next f2.below;refine aj rfl (hB1.fld rfl) ?_;refine ag ?_;refine aj rfl (hB1.fld rfl) ?_;refine ag ?_;refine aj rfl (hB1.fld rfl) ?_;refine ag ?_;refine aj rfl (hB1.fld rfl) ?_;refine ag ?_;refine aI [0,1,2,17] rfl ?_;refine au rfl (fun hbad=> ?_) (fun hgood=> ?_)
 ·have hc:dB e= {e with low:=1,high:=0}:=by
   unfold dB;rw [if_pos (by simp at hbad; omega)]
  refine ag ?_;refine bi rfl is3.q rfl rfl hB1 (by show 1<4; decide) rfl ?_;rintro w3 hB3 hbut3 hsz3;refine ag ?_;refine bi rfl is3.q rfl rfl hB3 (by show 2<4; decide) rfl ?_;rintro w4 hB4 hbut4 hsz4;refine ag ?_;refine aF rfl (fun _ _ h=>hB4.fld h) ?_;have hb3:Below w.heap.size w w3:=hb2.grown hbut3 hb2.size (fun q hq=>by cases hq; omega);have hb4:Below w.heap.size w w4:=hb3.grown hbut4 hb3.size (fun q hq=>by cases hq; omega);have hB24:Blk w4 g2 60 [.int .i64 0,.int .i64 0,.int .i64 0,.slice none 0 0]:=hbut4.blk (hbut3.blk f2.blk (by omega)) (by omega);refine aQ rfl rfl rfl hB24 is60.q rfl rfl rfl ?_;rintro w5 hB5 hbut5 hsz5;refine ag ?_;have hb5:Below w.heap.size w w5:=hb4.grown hbut5 hb4.size (fun q hq=>by cases hq; omega);refine ow results250 underlying60 (by exact is60.q) rfl (hB5) (⟨hb5,?_⟩);rw [hc];rfl
 have hc:dB e= {e with low:=max e.low 0,high:=min e.high 1000000}:=by
  unfold dB;rw [if_neg (by simp at hgood; omega)]
 refine ag ?_;refine aj rfl (hB1.fld rfl) ?_;refine aT nA rfl ⟨ct,ct,trivial⟩ (fun _=>trivial) ?_;refine ag ?_;refine bi rfl is3.q rfl rfl hB1 (by show 1<4; decide) rfl ?_;rintro w3 hB3 hbut3 hsz3;refine ag ?_;refine aj rfl (hB3.fld rfl) ?_;refine aT kD rfl ⟨ct,ct,trivial⟩ (fun _=>trivial) ?_;refine ag ?_;refine bi rfl is3.q rfl rfl hB3 (by show 2<4; decide) rfl ?_;rintro w4 hB4 hbut4 hsz4;refine ag ?_;refine jw [0,1,2] rfl ?_;refine aF rfl (fun _ _ h=>hB4.fld h) ?_;have hb3:Below w.heap.size w w3:=hb2.grown hbut3 hb2.size (fun q hq=>by cases hq; omega);have hb4:Below w.heap.size w w4:=hb3.grown hbut4 hb3.size (fun q hq=>by cases hq; omega);have hB24:Blk w4 g2 60 [.int .i64 0,.int .i64 0,.int .i64 0,.slice none 0 0]:=hbut4.blk (hbut3.blk f2.blk (by omega)) (by omega);refine aQ rfl rfl rfl hB24 is60.q rfl rfl rfl ?_;rintro w5 hB5 hbut5 hsz5;refine ag ?_;have hb5:Below w.heap.size w w5:=hb4.grown hbut5 hb4.size (fun q hq=>by cases hq; omega);refine ow results250 underlying60 (by exact is60.q) rfl (hB5) (⟨hb5,?_⟩);rw [hc];rfl
def nodeAt (i:Nat) (e:Ev):Nd:=⟨i,-1,e.office,(dB e).low,(dB e).high,0,e.office⟩
def bQ (l:List Ev) (k:Nat):List Nd:=(l.take k).mapIdx nodeAt
theorem pK (he:l[k]?=some e):bQ l (k+1)=bQ l k++ [nodeAt k e]:=by
 unfold bQ;have hk:=(ZE he).1;rw [ZG,he,List.mapIdx_append];simp [Nat.min_eq_left (Nat.le_of_lt hk)]
theorem jq (h:k<=l.length):(bQ l k).length=k:=by simp [bQ]; omega
theorem yB {x:Nd} (h:(bQ l l.length)[i]?=some x): ∃e,l[i]?=some e/\x=nodeAt i e:=by
 unfold bQ at h;rw [List.take_length,List.getElem?_mapIdx] at h;obtain ⟨e,he,rfl⟩:=Option.map_eq_some_iff.1 h;exact ⟨e,he,rfl⟩
theorem yz (h: ∀e∈l,dF e<=bM e):bS (bQ l l.length)=l.map gZ:=by
 apply List.ext_getElem?;intro i;unfold bS bQ;rw [List.getElem?_map,List.take_length,List.getElem?_mapIdx,List.getElem?_map]
 cases he:l[i]? with
 | none=>rfl
 | some e =>
  obtain ⟨h1,h2⟩:=sI (h e (ZF he));simp only [Option.map_some];unfold nodeAt Nd.u gZ;simp only [h1,h2]
theorem yA (hw:WfE d l) (h: ∀e∈l,dF e<=bM e): ∀x∈bQ l l.length,NdOK d l.length x:=fun x hx=>by
 obtain ⟨i,hi⟩:=List.mem_iff_getElem?.1 hx;obtain ⟨e,he,rfl⟩:=yB hi;have hem:=ZF he;have hee:=hw.each e hem;obtain ⟨h1,h2⟩:=sI (h e hem);have hle:=h e hem;have hil:=(ZE he).1;have hu:(nodeAt i e).u=gZ e:=by unfold nodeAt Nd.u gZ; simp only [h1,h2]
 refine ⟨hee.o1,hee.o1,Int.le_refl _,by show (0:Int)<=1000000; decide,?_,?_,?_,by rw [hu]; exact qy hw.wd hee,by show (0:Int)<=i; omega,by show (i:Int)<_; omega,by show (-1:Int)<_; omega⟩
 ·show 0<=(dB e).low;rw [h1]; unfold dF; omega
 ·show (dB e).low<=(dB e).high;rw [h1,h2]; exact hle
 ·show (dB e).high<=1000000;rw [h2];unfold bM dF at *;omega
abbrev NL (w:World) (v:Value) (ns:List Nd):Prop:=OwnS w 270 7 v ns.length (ns.flatMap Nd.cells)
theorem FU (hl:SE w lv l) (h16:l.length<=16) :
  Gives prog 228 #[dv,lv,.slice none 0 0] w fun x w'=>Below w.heap.size w w'/\ ∃nv,x= .tuple #[nv,.bool (dec (∀e∈l,dF e<=bM e))]/\((∀e∈l,dF e<=bM e)->SL GG (fun q=>w.heap.size<=q/\q<w'.heap.size) w' nv (bQ l l.length)):=by
 obtain ⟨B,bcap,rfl,_⟩:=hl.form;refine gv (f:=228) ?_;refine ag ?_;refine bI rfl rfl (dH rG I6 rfl) rfl rfl (by omega) (by omega) ?_;rintro g1 w1 f1;refine ag ?_;have ha1:=f1.at_;refine aJ [1,2,8,9] (fun k:Nat=> [(10,none,.int .i64 (k:Int))])
  (fun k W=>k=0/\Below w1.heap.size w1 W) (fun k=>k) 0 ⟨rfl,ZA⟩ ?_
 rintro k W2 ⟨rfl,hB2⟩;refine ag ?_;refine ai rfl (fun hlt=> ?_) (fun hge=> ?_)
 ·exact absurd hlt (by decide)
 refine ag ?_;have hb2:=f1.below.step hB2;have hu2:=f1.blk.next hB2;refine aJ [1,9] (fun x:Nat×Value=> [(8,none,x.2),(14,none,.int .i64 (x.1:Int))])
  (fun x W=>x.1<=l.length/\Below w.heap.size w W/\NL W x.2 (bQ l x.1)/\(∀g,x.2.ownBlock=some g->g1<g)/\Blk W g1 4 (List.replicate l.length (.bool false))) (fun x=>l.length-x.1) (0,.slice none 0 0) ⟨ZB,hb2,OwnS.nil _ _ _,fun g hg=>by simp [Value.ownBlock] at hg,hu2⟩ ?_
 rintro ⟨i,nv⟩ W ⟨hi,hB,hN,hown,hU⟩;dsimp only at hi hN hown;have hnl:=jq hi;refine ag ?_;refine aI [1,8,9,14,119] rfl ?_;refine ai rfl (fun hlt3=> ?_) (fun hge3=> ?_)
 ·obtain ⟨e,he,hem⟩:=bD (l:=l) (k:=i) (by omega);have hlW:=aY hl hB;obtain ⟨ad,rfl⟩:=hlW.addr (by omega);obtain ⟨nd,hcells,i1,i2,i3,hneeds⟩:=SE.get hlW he;obtain ⟨N,ncap,rfl,_⟩:=hneeds.form;have hcu:W.cell? (Addr.add ⟨g1,0,none⟩ ((i:Int).toNat*1))=some (.bool false):=hU.fld (by rw [List.getElem?_replicate,if_pos (by omega)]);refine ag ?_;refine aj rfl hcu ?_;refine ag ?_;refine au rfl (fun hin=> ?_) (fun hout=> ?_);rotate_left 1
  ·exact absurd hout (by simp)
  refine ag ?_;refine aF rfl (hcells) ?_;refine aA rfl (sj) ?_;rintro y w3 ⟨c3,rfl⟩;refine aM rfl nY rfl is60.q rfl rfl ?_;rintro g4 w4 f4;refine ag ?_;have hb4:=c3.step f4.below;have hN4:=(hN.below c3).below f4.below;obtain ⟨q1,q2⟩:=nR e;have hBk4:Blk w4 g4 60 [.int .i64 e.office,.int .i64 (dB e).low,.int .i64 (dB e).high,.slice N e.needs.length ncap]:=by
   have:=f4.blk;unfold NY at this;rw [q1] at this;exact this
  refine aj rfl (hBk4.fld rfl) ?_;refine ag ?_;refine aj rfl (hBk4.fld rfl) ?_;refine ag ?_;refine aj rfl (hBk4.fld rfl) ?_;refine ag ?_;refine aj rfl (hBk4.fld rfl) ?_;refine aH [0,1,2,3,4,6] [.tmp 133,.const (.int .i64 (-1)),.tmp 135,.tmp 137,.tmp 139,.tmp 141] (nodeAt i e).cells rfl rfl rfl (aa rfl ct (aa rfl ct (aa rfl ct (aa rfl ct (aa rfl ct (aa rfl ct ah)))))) (by kernel_rfl) ?_;refine ak 270 _ rfl rfl rfl H5 (aa rfl ct ah) rfl rfl rfl rfl rfl ?_;rintro g5 w5 f5;refine aK (nodeAt i e).cells rfl rfl Hg rfl (hN4.below f5.below) rfl rfl (fun j v hj=>⟨⟨g5,0,none⟩,rfl,f5.blk.fld hj⟩) (fun v hv=>by simp [Nd.cells] at hv; rcases hv with rfl|rfl|rfl|rfl|rfl|rfl|rfl<;>rfl) (by omega) (by omega) ?_;rintro nv' w6 o6 hg6 hn6;refine ag ?_;have hb5:=hb4.step f5.below;have hbW5:=hB.step hb5;have hs5:=hb5.size;have hUlt:=hU.lt;refine aC (i+1,nv') ⟨by show i+1<=l.length; omega,hbW5.grown hg6 hbW5.size (fun q hq=>by have:=hown q hq; omega),?_,fun g hg=> ?_,?_⟩
  ·show OwnS w6 _ 7 nv' (bQ l (i+1)).length ((bQ l (i+1)).flatMap Nd.cells);rw [pK he,List.flatMap_append];simpa using o6
  ·rcases hn6 with h|h
   ·exact hown g (by rw [<-h]; exact hg)
   ·rw [h] at hg; cases hg; omega
  ·have hU5:=hU.next hb5;exact (hg6.block g1 hU5.lt (fun e=>absurd (hown g1 e.symm) (Nat.lt_irrefl _))).trans hU5
 have hie:i=l.length:=by omega
 subst hie;have hsl:SL GG (fun q=>w.heap.size<=q/\q<W.heap.size) W nv (bQ l l.length):=nX (T:=GG) Nd.cells (fun _ _=>rfl) hN (fun g hg=>⟨by have:=hown g hg; omega,hN.lt hg⟩) (by omega);obtain ⟨A,ncap,rfl,_⟩:=hsl.form;refine ag ?_;refine aJ [8] (fun k:Nat=> [(16,none,.int .i64 (k:Int))])
  (fun k W'=>k<=l.length/\Below W.heap.size W W'/\ ∀(i:Nat) e,i<k->l[i]?=some e->dF e<=bM e) (fun k=>l.length-k) 0 ⟨ZB,ZA,fun i e hi=>by omega⟩ ?_
 rintro k W' ⟨hk,hBk,hall⟩;refine ag ?_;refine ai rfl (fun hlt4=> ?_) (fun hge4=> ?_)
 ·obtain ⟨e,he,hem⟩:=bD (l:=l) (k:=k) (by omega);have hsl':=hsl.below hBk;obtain ⟨ad,rfl⟩:=hsl'.addr (by omega);have hnx:(bQ l l.length)[k]?=some (nodeAt k e):=by
   unfold bQ;rw [List.take_length,List.getElem?_mapIdx,he];rfl
  have hc:=iL hsl' hnx;refine ag ?_;refine bg mixed (by kernel_rfl) ?_;refine aZ ?_;refine aB rfl (hc 3 _ rfl) ?_;refine aZ ?_;refine aB rfl (hc 4 _ rfl) ?_;refine aZ ?_;refine bR [8,16,161] rfl fun w7 b7=> ?_;refine aD ?_;have hbb:=hB.step (hBk.step b7);refine ai rfl (fun hbad=> ?_) (fun hgood=> ?_)
  ·refine ag ?_;refine jH rfl ⟨hbb,.slice none 0 0,?_,fun h=> ?_⟩
   ·rw [az];intro h;have:=clip_ok.2 (h e hem);have hbad:(dB e).low>(dB e).high:=hbad;omega
   ·have:=clip_ok.2 (h e hem);have hbad:(dB e).low>(dB e).high:=hbad;omega
  ·refine ag ?_;refine aC (k+1) ⟨by omega,hBk.step b7,fun i e' hi he'=> ?_⟩;by_cases hik:i<k
   ·exact hall i e' hik he'
   ·have:i=k:=by omega
    subst this;rw [he] at he';cases he';exact clip_ok.1 (by have hgood: ¬(dB e).low>(dB e).high:=hgood; omega)
 ·have hal: ∀e∈l,dF e<=bM e:=fun e he=>by
   obtain ⟨i,hi⟩:=List.mem_iff_getElem?.1 he;exact hall i e (by have:=(ZE hi).1; omega) hi
  refine ag ?_;refine jH rfl ⟨hB.step hBk,_,by rw [ay hal],fun _=> ?_⟩;have hs:=hBk.size;exact (hsl.below hBk).wider (fun q hq=>⟨hq.1,by omega⟩)
theorem Dj {u:Value} (hd:SD w v d) (hl:SE w u l) (hleg:LegAt w la n gp) (hn:l.length=n+2) (hgp:0<=gp/\gp<=1000000):Gives prog 96 #[v,u,.slice (some la) 1 lc] w fun x w'=>Below w.heap.size w w'/\x= .bool (dec (WfE d l)):=by
 obtain ⟨A,cap,rfl,_⟩:=hd.form;obtain ⟨B,bcap,rfl,_⟩:=hl.form;have hmax:l.length<=9223372036854775807:=hl.len.2.2;refine gv (f:=96) ?_;refine ag ?_;refine aA rfl (pF hd) ?_;rintro y w1 ⟨hb1,rfl⟩;refine ag ?_;refine au rfl (fun hbad=> ?_) (fun hgood=> ?_)
 ·refine ag ?_;refine aW rfl ⟨hb1,by rw [az (fun h=>by simp [ay h.wd] at hbad; have:=h.few; omega)]⟩
 have hwd:WfD d:=dec_iff.1 (by cases hq:dec (WfD d)<;>simp_all);have hfew:l.length<=16:=by simp [ay hwd] at hgood; omega
 refine ag ?_;refine bI rfl rfl (dH rG I6 rfl) rfl rfl (by omega) (by omega) ?_;rintro g2 w2 f2;refine ag ?_;have hb02:=hb1.step f2.below;have hg2:=f2.at_;have hw1:=hb1.size;refine aJ [0,1,2,7] (fun k:Nat=> [(8,none,.int .i64 (k:Int))])
  (fun k W=>k<=l.length/\W=w2/\Upto (EOK d) l k) (fun k=>l.length-k) 0 ⟨by omega,rfl,Upto.zero⟩ ?_
 rintro k W ⟨hk,rfl,hup⟩;have hl2:=hl.below hb02;refine ag ?_;refine aI [0,1,2,7,8,25] rfl ?_;refine ai rfl (fun hlt=> ?_) (fun hge=> ?_)
 ·obtain ⟨x,hx,hxm⟩:=bD (l:=l) (k:=k) (by omega);obtain ⟨ad,rfl⟩:=hl2.addr (by omega);obtain ⟨nx,cx,_,_,_,hnx⟩:=SE.get hl2 hx;refine ag ?_;refine aj rfl (cx 0 _ rfl) ?_;refine ag ?_;refine aj rfl (cx 0 _ rfl) ?_;refine ag ?_;refine aI [0,1,2,7,8,43] rfl ?_;refine au rfl (fun he=> ?_) (fun hn2=> ?_)
  ·refine ag ?_;refine aW rfl ⟨hb02,by rw [az (fun h=>by have h1:=(h.each x hxm).o1; have h2:=(h.each x hxm).o2; simp at he; omega)]⟩
  refine ag ?_;refine aC (k+1) ⟨by omega,rfl,hup.succ hx (by simp at hn2; exact ⟨by omega,by omega⟩)⟩
 ·have hok:WfE d l:=⟨hwd,hfew,hup.all (by omega)⟩;have hl9:=hleg.below hb02;have hbu:Blk W g2 4 (List.replicate l.length (.bool false)):=f2.blk;have hful: ∀i,i<l.length->(List.replicate l.length (Value.bool false))[i]?=some (.bool false):=fun i hi=>by rw [List.getElem?_replicate,if_pos hi]
  refine ag ?_;refine aJ [1,2,7] (fun k:Nat=> [(9,none,.int .i64 (k:Int))])
   (fun k W'=>k<=1/\Below w.heap.size w W'/\(k=0->W'=W)) (fun k=>1-k) 0 ⟨ZB,hb02,fun _=>rfl⟩ ?_
  rintro k2 W' ⟨hk2,hBW,hW0⟩;refine ag ?_;refine ai rfl (fun hlt2=> ?_) (fun hge2=> ?_)
  ·have hk0:k2=0:=by omega
   subst hk0;have hw:=hW0 rfl;subst hw;refine ag ?_;refine aF rfl (hl9.at0) ?_;refine aM rfl xC rfl is133.q rfl rfl ?_;rintro g4 w4 f4;refine ag ?_;have hg4:=f4.at_;have hL4:=f4.blk;have hbu4:=hbu.next f4.below;have hgl:=hbu.lt;have hcn:w4.cell? (Addr.add ⟨g2,0,none⟩ ((n:Int).toNat*1))=some (.bool false):=by
    rw [show (n:Int).toNat*1=n by omega];exact hbu4.fld (hful n (by omega))
   have hcm:w4.cell? (Addr.add ⟨g2,0,none⟩ (((n:Int)+1).toNat*1))=some (.bool false):=by
    rw [show ((n:Int)+1).toNat*1=n+1 by omega];exact hbu4.fld (hful (n+1) (by omega))
   refine aj rfl (hL4.fld rfl) ?_;refine ag ?_;refine aj rfl (hL4.fld rfl) ?_;refine ag ?_;refine aj rfl (hL4.fld rfl) ?_;refine ag ?_;refine aj rfl (hL4.fld rfl) ?_;refine ag ?_;refine aj rfl (hL4.fld rfl) ?_;refine ag ?_;refine aj rfl (hL4.fld rfl) ?_;refine ag ?_;refine aj rfl (hL4.fld rfl) ?_;refine ag ?_;refine aj rfl hcn ?_;refine ag ?_;refine aj rfl (hL4.fld rfl) ?_;refine ag ?_;refine aj rfl hcm ?_;refine ag ?_;refine aj rfl (hL4.fld rfl) ?_;refine ag ?_;refine aj rfl (hL4.fld rfl) ?_;refine ag ?_;refine aI [1,2,7,9,10,106] rfl ?_;refine au rfl (fun hbad3=> ?_) (fun hgood3=> ?_)
   ·exfalso;simp at hbad3;omega
   refine ag ?_;refine aj rfl (hL4.fld rfl) ?_;refine ag ?_;refine bi rfl is4.q rfl rfl hbu4 (by simp; omega) rfl ?_;rintro w5 hB5 hbut5 hsz5;refine ag ?_;have hL5:=But.blk (k:=g4) hbut5 hL4 (by omega);refine aj rfl (hL5.fld rfl) ?_;refine ag ?_;refine bi rfl is4.q rfl rfl hB5 (by simp; omega) rfl ?_;rintro w6 hB6 hbut6 hsz6;refine ag ?_;have hBW4:=hBW.step f4.below;have hBW6:Below w.heap.size w w6:=hBW4.grown (But.trans hbut5 hbut6) hBW4.size (fun q hq=>by cases hq; omega);refine aC 1 ⟨ZC,hBW6,fun h=>absurd h (by decide)⟩ (hm:=by decide)
  ·refine ag ?_;refine aW rfl ⟨hBW,by rw [ay hok]⟩
def gy (n:Nat) (a b:Ev) (g:Int):Nd:=⟨n,n+1,a.office,max (dB a).low ((dB b).low-g),min (dB a).high ((dB b).high-g),g,b.office⟩
structure NodesJ (d:bA) (rest:List Ev) (a b:Ev) (g:Int):Prop where
 leg:kS d a b g
 wa:dF a<=bM a
 wb:dF b<=bM b
 wj:(gy 0 a b g).low<=(gy 0 a b g).high
 each: ∀e∈rest,dF e<=bM e
theorem pY (e:Ev):(0<=(dB e).low/\(dB e).low<=1000000)/\0<=(dB e).high/\(dB e).high<=1000000:=by
 unfold dB
 split<;>(dsimp only; omega)
theorem Do (hd:SD w dv d) (hl:SE w lv l) (hleg:LegAt w la n gp) (hle:l=rest++ [a,b]) (hn:rest.length=n) (hgp:0<=gp/\gp<=1000000) (hok:WfE d l) :
  Gives prog 228 #[dv,lv,.slice (some la) 1 lc] w fun x w'=>Below w.heap.size w w'/\ ∃nv,x= .tuple #[nv,.bool (dec (NodesJ d rest a b gp))]/\(NodesJ d rest a b gp->SL GG (fun q=>w.heap.size<=q/\q<w'.heap.size) w' nv (gy n a b gp::bQ rest n)):=by
 obtain ⟨A,cap,rfl,hcap⟩:=hd.form;obtain ⟨B,bcap,rfl,_⟩:=hl.form;have h16:=hok.few;have hll:l.length=n+2:=by rw [hle,List.length_append,hn]; rfl
 have hla:l[n]?=some a:=by rw [hle,List.getElem?_append_right (by omega),hn]; simp
 have hlb:l[n+1]?=some b:=by rw [hle,List.getElem?_append_right (by omega),hn]; simp
 have hoa:=hok.each a (ZF hla);have hob:=hok.each b (ZF hlb);have a1:=hoa.o1;have a2:=hoa.o2;have b1:=hob.o1;have b2:=hob.o2;obtain ⟨ad,rfl⟩:=hl.addr (by omega);obtain ⟨da,rfl⟩:=hd.addr (by omega);obtain ⟨row,hr⟩: ∃r,d[a.office.toNat]?=some r:=⟨_,ZD (by omega)⟩;have hrl:row.length=d.length:=hok.wd.row _ row hr;obtain ⟨z,hz⟩: ∃z,row[b.office.toNat]?=some z:=⟨_,ZD (by omega)⟩;have hza:=gH hr hz;have hzr:=hok.wd.rng a.office.toNat b.office.toNat (by omega) (by omega);rw [hza] at hzr;refine gv (f:=228) ?_;refine ag ?_;refine bI rfl rfl (dH rG I6 rfl) rfl rfl (by omega) (by omega) ?_;rintro g1 w1 f1;refine ag ?_;have hg1:=f1.at_;have hw1s:=f1.size;refine aJ [0,1,2,9] (fun x:Nat×Value=> [(8,none,x.2),(10,none,.int .i64 (x.1:Int))])
  (fun x W=>x.1<=1/\Below w.heap.size w W/\(x.1=0->W=w1/\x.2= .slice none 0 0)/\(x.1=1->kS d a b gp/\dF a<=bM a/\dF b<=bM b/\Blk W g1 4 ((((List.replicate l.length false).set n true).set (n+1) true).map Value.bool)/\NL W x.2 [gy n a b gp]/\(∀g,x.2.ownBlock=some g->g1<g))) (fun x=>1-x.1) (0,.slice none 0 0) ⟨ZB,f1.below,fun _=>⟨rfl,rfl⟩,fun h=>absurd h (by decide)⟩ ?_
 rintro ⟨k0,uv0⟩ W ⟨hk0,hBW,h0,h1⟩;dsimp only at hk0 h0 h1;refine ag ?_;refine ai rfl (fun hlt=> ?_) (fun hge=> ?_)
 ·have hk:k0=0:=by omega
  subst hk;obtain ⟨rfl,rfl⟩:=h0 rfl;have hl1:=hleg.below f1.below;have hb1:Blk W g1 4 ((List.replicate l.length false).map Value.bool):=by
   rw [List.map_replicate];exact f1.blk
  refine ag ?_;refine aF rfl (hl1.at0) ?_;refine aM rfl xC rfl is133.q rfl rfl ?_;rintro g11 w2 f2;refine ag ?_;have hB02:=f1.below.step f2.below;have hs2:=hl.below hB02;obtain ⟨nva,hca,ia1,ia2,ia3,hna⟩:=SE.get hs2 hla;obtain ⟨Ca,nca,rfl,_⟩:=hna.form;refine aj rfl (f2.blk.fld rfl) ?_;refine ag ?_;refine aF rfl (hca) ?_;refine aA rfl (sj) ?_;rintro y3 w3 ⟨c3,rfl⟩;refine aM rfl nY rfl is60.q rfl rfl ?_;rintro g12 w4 f4;refine ag ?_;have hB04:=(hB02.step c3).step f4.below;have hL4:=(f2.blk.next c3).next f4.below;have hs4:=hl.below hB04;obtain ⟨nvb,hcb,ib1,ib2,ib3,hnb⟩:=SE.get hs4 hlb;rw [show ((n+1:Nat):Int)=(n:Int)+1 by omega] at hcb;obtain ⟨Cb,ncb,rfl,_⟩:=hnb.form;refine aj rfl (hL4.fld rfl) ?_;refine ag ?_;refine aF rfl (hcb) ?_;refine aA rfl (sj) ?_;rintro y5 w5 ⟨c5,rfl⟩;refine aM rfl nY rfl is60.q rfl rfl ?_;rintro g13 w6 f6;refine ag ?_;have hB06:=(hB04.step c5).step f6.below;have hL6:=(hL4.next c5).next f6.below;have hA6:=(f4.blk.next c5).next f6.below;have hC6:=f6.blk;have hb6:=((((hb1.next f2.below).next c3).next f4.below).next c5).next f6.below;obtain ⟨qa1,qa2⟩:=nR a;obtain ⟨qb1,qb2⟩:=nR b;unfold NY at hA6 hC6;rw [qa1] at hA6;rw [qb1] at hC6;have z2:=f2.at_;have z4:=f4.at_
  have z6:=f6.at_;have s2:=f2.size;have s3:=c3.size;have s4:=f4.size;have s5:=c5.size;refine aj rfl (hL6.fld rfl) ?_;refine ag ?_;refine bi rfl is4.q rfl rfl hb6 (by simp; omega) rfl ?_;rintro w7 hB7 hbut7 hsz7;refine ag ?_;have hL7:=But.blk (k:=g11) hbut7 hL6 (by omega);refine aj rfl (hL7.fld rfl) ?_;refine ag ?_;refine bi rfl is4.q rfl rfl hB7 (by simp; omega) rfl ?_;rintro w8 hB8 hbut8 hsz8;refine ag ?_;refine aI [0,1,2,8,9,10,11,12,13] rfl ?_;refine bg mixed (by kernel_rfl) ?_;refine aZ ?_;have hB08:Below w.heap.size w w8:=hB06.grown (But.trans hbut7 hbut8) hB06.size (fun q hq=>by cases hq; omega);have hL8:=But.blk (k:=g11) hbut8 hL7 (by omega);have hA8:=But.blk (k:=g12) hbut8 (But.blk (k:=g12) hbut7 hA6 (by omega)) (by omega);have hC8:=But.blk (k:=g13) hbut8 (But.blk (k:=g13) hbut7 hC6 (by omega)) (by omega);have hd8:=hd.below hB08;obtain ⟨rv,hcell,hrow⟩:=hd8.row hr;obtain ⟨R1,rcap,rfl,_⟩:=hrow.form;obtain ⟨ra,rfl⟩:=hrow.addr (by omega);have hzc:=hrow.getI hz;simp only [Int.toNat_natCast] at hcell hzc;refine aB rfl (hA8.fld rfl) ?_;refine aZ ?_;refine aB rfl hcell ?_;refine aZ ?_;refine aB rfl (hC8.fld rfl) ?_;refine aZ ?_;refine aB rfl hzc ?_;refine aZ ?_
  refine aB rfl (hA8.fld rfl) ?_;refine aZ ?_;refine aB rfl hcell ?_;refine aZ ?_;refine aB rfl (hC8.fld rfl) ?_;refine aZ ?_;refine aB rfl hzc ?_;refine aZ ?_;refine aB rfl (hL8.fld rfl) ?_;refine aZ ?_;refine bR [0,1,2,8,9,10,11,12,13,73] rfl fun w9 b9=> ?_;refine aD ?_;have hB09:=hB08.step b9;have hL9:=hL8.next b9;have hA9:=hA8.next b9;have hC9:=hC8.next b9;refine au rfl (fun hbad=> ?_) (fun hgood=> ?_)
  ·refine ag ?_;refine jH rfl ⟨hB09,.slice none 0 0,?_,fun h=> ?_⟩
   ·rw [az];intro h;have q1:=h.leg.1;have q2:=h.leg.2;rw [hza] at q1 q2;simp at hbad;omega
   ·exfalso;have q1:=h.leg.1;have q2:=h.leg.2;rw [hza] at q1 q2;simp at hbad;omega
  have hlo:kS d a b gp:=by
   simp at hgood;exact ⟨by rw [hza]; omega,by rw [hza]; omega⟩
  refine ag ?_;refine aj rfl (hA9.fld rfl) ?_;refine ag ?_;refine aj rfl (hA9.fld rfl) ?_;refine ag ?_;refine aj rfl (hC9.fld rfl) ?_;refine ag ?_;refine aj rfl (hC9.fld rfl) ?_;refine ag ?_;refine aI [0,1,2,8,9,10,11,12,13,85] rfl ?_;refine au rfl (fun hbad2=> ?_) (fun hgood2=> ?_)
  ·have hno: ¬(dF a<=bM a/\dF b<=bM b):=fun ⟨h1,h2⟩=>by
    have q1:=clip_ok.2 h1;have q2:=clip_ok.2 h2;simp at hbad2;omega
   refine ag ?_;refine jH rfl (⟨hB09,.slice none 0 0,by rw [az fun h=>hno ⟨h.wa,h.wb⟩],fun h=>absurd ⟨h.wa,h.wb⟩ hno⟩)
  have hwa:dF a<=bM a:=clip_ok.1 (by simp at hgood2; omega);have hwb:dF b<=bM b:=clip_ok.1 (by simp at hgood2; omega);have hra:=pY a;have hrb:=pY b;refine ag ?_;refine aj rfl (hL9.fld rfl) ?_;refine ag ?_;refine aj rfl (hL9.fld rfl) ?_;refine ag ?_;refine aj rfl (hA9.fld rfl) ?_;refine ag ?_;refine aj rfl (hA9.fld rfl) ?_;refine ag ?_;refine aj rfl (hC9.fld rfl) ?_;refine ag ?_;refine aj rfl (hL9.fld rfl) ?_;refine ag ?_;refine aT nA rfl ⟨ct,ct,trivial⟩ (fun _=>trivial) ?_;refine ag ?_;refine aj rfl (hA9.fld rfl) ?_;refine ag ?_;refine aj rfl (hC9.fld rfl) ?_;refine ag ?_;refine aj rfl (hL9.fld rfl) ?_;refine ag ?_;refine aT kD rfl ⟨ct,ct,trivial⟩ (fun _=>trivial) ?_;refine ag ?_;refine aj rfl (hL9.fld rfl) ?_;refine ag ?_;refine aj rfl (hC9.fld rfl) ?_;refine aH [0,1,2,3,4,5,6] _ (gy n a b gp).cells rfl rfl rfl (aa rfl ct (aa rfl ct (aa rfl ct (aa rfl ct (aa rfl ct (aa rfl ct (aa rfl ct ah))))))) (by kernel_rfl) ?_;refine ak 270 _ rfl rfl rfl H5 (aa rfl ct ah) rfl rfl rfl rfl rfl ?_;rintro g14 w10 f10
  refine aK (gy n a b gp).cells rfl rfl Hg rfl (OwnS.nil _ _ _) rfl rfl (fun j v hj=>⟨⟨g14,0,none⟩,rfl,f10.blk.fld hj⟩) (fun v hv=>by simp [Nd.cells] at hv; rcases hv with rfl|rfl|rfl|rfl|rfl|rfl|rfl<;>rfl) (by omega) (by omega) ?_;rintro nv' w11 o11 hg11 hn11;refine ag ?_;have hB10:=hB09.step f10.below;have hbl:Blk w10 g1 4 ((((List.replicate l.length false).set n true).set (n+1) true).map Value.bool):=by
   have e1:(n:Int).toNat*1=n:=by omega
   have e2:((n:Int)+1).toNat*1=n+1:=by omega
   rw [e1,e2] at hB8;rw [List.map_set,List.map_set];exact (hB8.next b9).next f10.below
  have hg1l:=hbl.lt;refine aC (1,nv') ⟨ZC,hB10.grown hg11 hB10.size (fun q hq=>by simp [Value.ownBlock] at hq),fun h=>absurd (show (1:Nat)=0 from h) (by decide),fun _=>⟨hlo,hwa,hwb,GB.blk hg11 hbl (fun e=>by simp [Value.ownBlock] at e),o11,fun q hq=> ?_⟩⟩ (hm:=by show 1-1<1-0; decide);rcases hn11 with h|h
  ·rw [h] at hq; simp [Value.ownBlock] at hq
  ·rw [h] at hq; cases hq; exact hg1l
 ·have hk:k0=1:=by omega
  subst hk;obtain ⟨hlo,hwa,hwb,hbl,hN0,hgo⟩:=h1 rfl;refine ag ?_;refine aJ [1,9] (fun x:Nat×Value=> [(8,none,x.2),(14,none,.int .i64 (x.1:Int))])
   (fun x W=>x.1<=l.length/\Below w.heap.size w W/\NL W x.2 (gy n a b gp::bQ rest (min x.1 n))/\(∀g,x.2.ownBlock=some g->g1<g)/\Blk W g1 4 ((((List.replicate l.length false).set n true).set (n+1) true).map Value.bool)) (fun x=>l.length-x.1) (0,uv0) ⟨ZB,hBW,by rw [Nat.min_eq_left ZB]; exact hN0,hgo,hbl⟩ ?_
  rintro ⟨i,nv⟩ W2 ⟨hi,hB,hN,hown,hU⟩;dsimp only at hi hN hown;have hnl:(bQ rest (min i n)).length=min i n:=jq (by omega);have hnl2:(gy n a b gp::bQ rest (min i n)).length=min i n+1:=by rw [List.length_cons,hnl]
  refine ag ?_;refine ai rfl (fun hlt3=> ?_) (fun hge3=> ?_)
  ·obtain ⟨e,he,hem⟩:=bD (l:=l) (k:=i) (by omega);have hlW:=hl.below hB;obtain ⟨nd,hcells,i1,i2,i3,hneeds⟩:=SE.get hlW he;obtain ⟨C,ncap,rfl,_⟩:=hneeds.form;have hcu:W2.cell? (Addr.add ⟨g1,0,none⟩ ((i:Int).toNat*1))=some (.bool (decide (n<=i))):=by
    rw [show (i:Int).toNat*1=i by omega];exact hU.fld (by rw [List.getElem?_map,B8 hll (by omega)]; rfl)
   refine ag ?_;refine aj rfl hcu ?_;refine ag ?_;refine aI [1,8,9,14,126] rfl ?_;refine au rfl (fun hin=> ?_) (fun hout=> ?_)
   ·have hin':i<n:=by simpa using hin
    have hre:rest[i]?=some e:=by rw [hle,List.getElem?_append_left (by omega)] at he; exact he
    refine ag ?_;refine aF rfl (hcells) ?_;refine aA rfl (sj) ?_;rintro y w3 ⟨c3,rfl⟩;refine aM rfl nY rfl is60.q rfl rfl ?_;rintro g4 w4 f4;refine ag ?_;have hb4:=c3.step f4.below;have hN4:=(hN.below c3).below f4.below;obtain ⟨q1,q2⟩:=nR e;have hBk4:Blk w4 g4 60 [.int .i64 e.office,.int .i64 (dB e).low,.int .i64 (dB e).high,.slice C e.needs.length ncap]:=by
     have:=f4.blk;unfold NY at this;rw [q1] at this;exact this
    refine aj rfl (hBk4.fld rfl) ?_;refine ag ?_;refine aj rfl (hBk4.fld rfl) ?_;refine ag ?_;refine aj rfl (hBk4.fld rfl) ?_;refine ag ?_;refine aj rfl (hBk4.fld rfl) ?_;refine aH [0,1,2,3,4,6] [.tmp 133,.const (.int .i64 (-1)),.tmp 135,.tmp 137,.tmp 139,.tmp 141] (nodeAt i e).cells rfl rfl rfl (aa rfl ct (aa rfl ct (aa rfl ct (aa rfl ct (aa rfl ct (aa rfl ct ah)))))) (by kernel_rfl) ?_;refine ak 270 _ rfl rfl rfl H5 (aa rfl ct ah) rfl rfl rfl rfl rfl ?_;rintro g5 w5 f5;refine aK (nodeAt i e).cells rfl rfl Hg rfl (hN4.below f5.below) rfl rfl (fun j v hj=>⟨⟨g5,0,none⟩,rfl,f5.blk.fld hj⟩) (fun v hv=>by simp [Nd.cells] at hv; rcases hv with rfl|rfl|rfl|rfl|rfl|rfl|rfl<;>rfl) (by omega) (by omega) ?_;rintro nv' w6 o6 hg6 hn6;refine ag ?_;have hb5:=hb4.step f5.below;have hbW5:=hB.step hb5;have hs5:=hb5.size;have hUlt:=hU.lt;refine aC (i+1,nv') ⟨by show i+1<=l.length; omega,hbW5.grown hg6 hbW5.size (fun q hq=>by have:=hown q hq; omega),?_,fun g hg=> ?_,?_⟩
    ·show OwnS w6 _ 7 nv' (gy n a b gp::bQ rest (min (i+1) n)).length ((gy n a b gp::bQ rest (min (i+1) n)).flatMap Nd.cells);rw [Nat.min_eq_left (by omega)] at o6;rw [Nat.min_eq_left (by omega),pK hre,<-List.cons_append,List.flatMap_append];simpa using o6
    ·rcases hn6 with h|h
     ·exact hown g (by rw [<-h]; exact hg)
     ·rw [h] at hg; cases hg; omega
    ·have hU5:=hU.next hb5;exact (hg6.block g1 hU5.lt (fun e=>absurd (hown g1 e.symm) (Nat.lt_irrefl _))).trans hU5
   ·have hin':n<=i:=by simpa using hout
    refine ag ?_;refine aC (i+1,nv) ⟨by show i+1<=l.length; omega,hB,?_,hown,hU⟩;show NL W2 nv (gy n a b gp::bQ rest (min (i+1) n));rw [Nat.min_eq_right (by omega)];rw [Nat.min_eq_right (by omega)] at hN;exact hN
  have hie:i=l.length:=by omega
  subst hie;rw [Nat.min_eq_right (by omega)] at hN;obtain ⟨ns,hns⟩: ∃ns,ns=gy n a b gp::bQ rest n:=⟨_,rfl⟩;have hnsl:ns.length=n+1:=by rw [hns,List.length_cons,jq (by omega)]
  have hns0:ns[0]?=some (gy n a b gp):=by rw [hns]; rfl
  have hnsi: ∀(i:Nat) e,rest[i]?=some e->ns[i+1]?=some (nodeAt i e):=fun i e he=>by
   rw [hns,List.getElem?_cons_succ];unfold bQ;rw [List.take_of_length_le (by omega),List.getElem?_mapIdx,he];rfl
  rw [<-hns] at hN ⊢;have hsl:SL GG (fun q=>w.heap.size<=q/\q<W2.heap.size) W2 nv ns:=nX (T:=GG) Nd.cells (fun _ _=>rfl) hN (fun g hg=>⟨by have:=hown g hg; omega,hN.lt hg⟩) (by omega);obtain ⟨A,ncap,rfl,_⟩:=hsl.form;have hnj:NodesJ d rest a b gp-> ∀(i:Nat) x,ns[i]?=some x->x.low<=x.high:=fun h i x hx=>by
   cases i with
   | zero =>
    rw [hns0] at hx;cases hx
    exact h.wj
   | succ i =>
    have hil:=(ZE hx).1;obtain ⟨e,he,hem⟩:=bD (l:=rest) (k:=i) (by omega);rw [hnsi i e he] at hx;cases hx;exact clip_ok.2 (h.each e hem)
  refine ag ?_;refine aJ [8] (fun k:Nat=> [(16,none,.int .i64 (k:Int))])
   (fun k W'=>k<=ns.length/\Below W2.heap.size W2 W'/\ ∀(i:Nat) x,i<k->ns[i]?=some x->x.low<=x.high) (fun k=>ns.length-k) 0 ⟨ZB,ZA,fun i e hi=>by omega⟩ ?_
  rintro k W' ⟨hk,hBk,hall⟩;refine ag ?_;refine ai rfl (fun hlt4=> ?_) (fun hge4=> ?_)
  ·obtain ⟨x,hx,hxm⟩:=bD (l:=ns) (k:=k) (by omega);have hsl':=hsl.below hBk;obtain ⟨ad2,rfl⟩:=hsl'.addr (by omega);have hc:=iL hsl' hx;refine ag ?_;refine bg mixed (by kernel_rfl) ?_;refine aZ ?_;refine aB rfl (hc 3 _ rfl) ?_;refine aZ ?_;refine aB rfl (hc 4 _ rfl) ?_;refine aZ ?_;refine bR [8,16,161] rfl fun w7 b7=> ?_;refine aD ?_;have hbb:=hB.step (hBk.step b7);refine ai rfl (fun hbad=> ?_) (fun hgood=> ?_)
   ·refine ag ?_;refine jH rfl ⟨hbb,.slice none 0 0,by rw [az fun h=>by have:=hnj h k x hx; omega],fun h=>by have:=hnj h k x hx; omega⟩
   ·refine ag ?_;refine aC (k+1) ⟨by omega,hBk.step b7,fun i x' hi hx'=> ?_⟩;by_cases hik:i<k
    ·exact hall i x' hik hx'
    ·have:i=k:=by omega
     subst this;rw [hx] at hx';cases hx';omega
  ·have hal:NodesJ d rest a b gp:=⟨hlo,hwa,hwb,hall 0 (gy n a b gp) (by omega) hns0,fun e he=>by
    obtain ⟨i,hi⟩:=List.mem_iff_getElem?.1 he;exact clip_ok.1 (hall (i+1) _ (by have:=(ZE hi).1; omega) (hnsi i e hi))⟩
   refine ag ?_;refine jH rfl ⟨hB.step hBk,_,by rw [ay hal],fun _=> ?_⟩;have hs:=hBk.size;exact (hsl.below hBk).wider (fun q hq=>⟨hq.1,by omega⟩)
theorem xO {ns:List Nd} (hn:SL GG G w nv ns) (hok: ∀x∈ns,NdOK d m x) (hm:m<=16) (hL:SL Oo F w lv L) (hback: ∀(i:Nat) s,L[i]?=some s->s.frm<i/\ -1<=s.frm/\s.last<ns.length/\0<=s.time/\s.time<=1000000) (hk:k<L.length) :
  Gives prog 231 #[nv,lv,.int .i64 (k:Int),.int .i64 (m:Int)] w fun u w'=>Below w.heap.size w w':=by
 obtain ⟨A,cap,rfl,_⟩:=hn.form;obtain ⟨B,bcap,rfl,_⟩:=hL.form;obtain ⟨ld,rfl⟩:=hL.addr (by omega);refine gv (f:=231) ?_;refine ag ?_;refine bI rfl rfl (dH lF EO rfl) rfl rfl (by omega) (by omega) ?_;rintro g1 w1 f1;refine ag ?_;have ha1:=f1.at_;refine aJ [0,1,9] (fun x:Nat=> [(2,none,.int .i64 ((x:Int)-1))])
  (fun x W=>x<=L.length/\Below w.heap.size w W/\jG W g1 m) (fun x=>x) (k+1) ⟨by omega,f1.below,List.replicate m 0,by simp,by simpa using f1.blk⟩ ?_ (hE:=by rw [show (((k+1:Nat):Int)-1)=(k:Int) by omega]; rfl)
 rintro j W ⟨hj,hB,⟨xs,hxl,hX⟩⟩;refine ag ?_;refine ai rfl (fun hlt=> ?_) (fun hge=> ?_)
 ·obtain ⟨i,rfl⟩: ∃i,j=i+1:=⟨j-1,by omega⟩;rw [show (((i+1:Nat):Int)-1)=(i:Int) by omega];obtain ⟨s,hs,hsm⟩:=bD (l:=L) (k:=i) (by omega);obtain ⟨q1,q2,q3,q4,q5⟩:=hback i s hs;obtain ⟨x,hx,hxm⟩:=bD (l:=ns) (k:=s.last) q3;have hxo:=hok x hxm;have hg0:=hxo.g0;have hg1:=hxo.g1;obtain ⟨nd,rfl⟩:=hn.addr (by omega);have hLW:=hL.below hB;have hnW:=hn.below hB;have hsc:=mh di (fun _ _ _ _ h=>h) hLW hs;have hxc:=iL hnW hx;obtain ⟨fi,hfi⟩: ∃o:Nat,x.first=o:=⟨x.first.toNat,by have:=hxo.f0; omega⟩;have hfm:fi<m:=by have:=hxo.f1; omega
  refine ag ?_;refine aj rfl (hsc 1 _ rfl) ?_;refine ag ?_;refine aF rfl (hxc) ?_;refine aM rfl MW rfl is270.q rfl rfl ?_;rintro g3 w3 f3;refine ag ?_;refine dE mixed fun W4 hb4=> ?_;refine dL .weak 9 (by kernel_rfl) (by kernel_rfl) rfl rfl hb4 ?_;refine aZ ?_;have ha3:=f3.at_;have hlt3:=hX.lt;have hB3:=hB.step f3.below;have hX3:=hX.next f3.below;have hsc3:=mh di (fun _ _ _ _ h=>h) (hLW.below f3.below) hs;have hf0:w3.cell? (Addr.add ⟨g3,0,none⟩ 0)=some (.int .i64 (fi:Int)):=by rw [<-hfi]; exact f3.blk.fld rfl
  refine aB rfl hf0 ?_;refine aZ ?_;refine aB rfl (hsc3 0 _ rfl) ?_;refine bL dW rfl ⟨ct,ct,trivial⟩ (fun _=>by omega) ?_;refine dD (iv [0,1,2,9,10,30,31] [(0,_,_),(1,_,_),(2,_,_),(9,_,_),(10,_,_),(30,_,_),(31,_,_)] rfl (fun w4 b4=>ek ?_));refine bV (by kernel_rfl) (by kernel_rfl) rfl ?_;have hX4:=hX3.next b4;refine bi rfl is3.q rfl rfl hX4 (by simp; omega) rfl ?_;rintro w5 hX5 hbut5 hsz5;refine bG (aS [0,1,2,9,10] [(0,_,_),(1,_,_),(2,_,_),(9,_,_),(10,_,_)] rfl (dJ ?_));refine ed rfl (aS [0,1,2,9,10] [(0,_,_),(1,_,_),(2,_,_),(9,_,_),(10,_,_)] rfl (aD ?_));refine ag ?_;have hB4:=hB3.step b4;have hB5:Below w.heap.size w w5:=hB4.grown hbut5 hB4.size (fun q hq=>by cases hq; omega);have hBk5:Blk w5 g3 270 x.cells:=hbut5.blk (f3.blk.next b4) (by omega);have hX5':jG w5 g1 m:=⟨xs.set fi s.time,by simp [hxl],by simpa [List.map_set] using hX5⟩;refine aj rfl (hBk5.fld rfl) ?_;refine ag ?_;refine aI [0,1,2,9,10,34] rfl ?_;refine ai rfl (fun hsec=> ?_) (fun hno=> ?_)
  ·obtain ⟨se,hse⟩: ∃o:Nat,x.second=o:=⟨x.second.toNat,by omega⟩;have hsm:se<m:=by have:=hxo.s1; omega
   have hsc5:=mh di (fun _ _ _ _ h=>h) (hL.below hB5) hs;have hf1:w5.cell? (Addr.add ⟨g3,0,none⟩ 1)=some (.int .i64 (se:Int)):=by rw [<-hse]; exact hBk5.fld rfl
   obtain ⟨ys,hyl,hY⟩:=hX5';refine dE mixed fun W6 hb6=> ?_;refine dL .weak 12 (by kernel_rfl) (by kernel_rfl) rfl rfl hb6 ?_;refine aZ ?_;refine aB rfl hf1 ?_;refine aZ ?_;refine aB rfl (hsc5 0 _ rfl) ?_;refine aZ ?_;refine aB rfl (hBk5.fld rfl) ?_;refine bL nD rfl ⟨ct,ct,trivial⟩ (fun _=>by omega) ?_;refine bL dW rfl ⟨ct,ct,trivial⟩ (fun _=>by omega) ?_;refine dD (iv [0,1,2,9,10,45,46] [(0,_,_),(1,_,_),(2,_,_),(9,_,_),(10,_,_),(45,_,_),(46,_,_)] rfl (fun w6 b6=>ek ?_));refine bV (by kernel_rfl) (by kernel_rfl) rfl ?_;have hY6:=hY.next b6;refine bi rfl is3.q rfl rfl hY6 (by simp; omega) rfl ?_;rintro w7 hY7 hbut7 hsz7;refine bG (aS [0,1,2,9,10] [(0,_,_),(1,_,_),(2,_,_),(9,_,_),(10,_,_)] rfl (dJ ?_));refine ed rfl (aS [0,1,2,9,10] [(0,_,_),(1,_,_),(2,_,_),(9,_,_),(10,_,_)] rfl (aD ?_));refine ag ?_;have hB6:=hB5.step b6;have hB7:Below w.heap.size w w7:=hB6.grown hbut7 hB6.size (fun q hq=>by cases hq; omega);have hsc7:=mh di (fun _ _ _ _ h=>h) (hL.below hB7) hs;refine aj rfl (hsc7 3 _ rfl) ?_;refine ag ?_;refine aC (s.frm+1).toNat ⟨by omega,hB7,ys.set se (s.time+x.gap),by simp [hyl],by simpa [List.map_set] using hY7⟩ (hp:= ?_);rw [show (((s.frm+1).toNat:Nat):Int)-1=s.frm by omega];rfl
  ·have hsc5:=mh di (fun _ _ _ _ h=>h) (hL.below hB5) hs;refine ag ?_;refine aj rfl (hsc5 3 _ rfl) ?_;refine ag ?_;refine aC (s.frm+1).toNat ⟨by omega,hB5,hX5'⟩ (hp:= ?_);rw [show (((s.frm+1).toNat:Nat):Int)-1=s.frm by omega];rfl
 ·refine ag ?_;refine aW rfl (hB)
theorem Dw (hw:WfE d l) (h: ∀e∈l,dF e<=bM e):Poss d l↔Feas d (none,0) (bS (bQ l l.length)):=by
 rw [pW hw.wd hw.each (List.Perm.refl _),yz h];constructor
 ·exact fun h=>h.2
 ·refine fun hf=>⟨fun u hu=> ?_,hf⟩;obtain ⟨e,he,rfl⟩:=List.mem_map.1 hu;exact h e he
theorem Gf (hw:WfE d l) (h:Poss d l): ∀e∈l,dF e<=bM e:=fun e he=>((pW hw.wd hw.each (List.Perm.refl _)).1 h).1 (gZ e) (List.mem_map_of_mem he)
theorem Lc (hd:SD w dv d) (hl:SE w lv l) :
  Gives prog 166 #[dv,lv,.slice none 0 0] w fun x w'=>Below w.heap.size w w'/\ ∃tv,x= .tuple #[tv,.bool (dec (WfE d l/\Poss d l))]:=by
 obtain ⟨D,dcap,rfl,_⟩:=hd.form;obtain ⟨B,bcap,rfl,_⟩:=hl.form;refine gv (f:=166) ?_;refine ag ?_;refine aA rfl (sV hd hl) ?_;rintro y w1 ⟨c1,rfl⟩;refine ag ?_;refine aI [0,1,2,6,7,20] rfl ?_;refine au rfl (fun hbad=> ?_) (fun hgood=> ?_)
 ·refine ag ?_;refine jH rfl ⟨c1,.slice none 0 0,?_⟩;rw [az (p:=WfE d l/\Poss d l)];rintro ⟨h,_⟩;rw [ay h] at hbad;simp at hbad
 have hwf:WfE d l:=dec_iff.1 (by simpa using hgood);have hl16:=hwf.few;refine ag ?_;refine aA rfl (FU (aY hl c1) hl16) ?_;rintro y w2 ⟨c2,nv,rfl,hns⟩;have b2:=c1.step c2;refine ag ?_;refine au rfl (fun hbad2=> ?_) (fun hgood2=> ?_)
 ·refine ag ?_;refine jH rfl ⟨b2,.slice none 0 0,?_⟩;rw [az (p:=WfE d l/\Poss d l)];rintro ⟨h,hp⟩;rw [ay (Gf h hp)] at hbad2;simp at hbad2
 have hwin: ∀e∈l,dF e<=bM e:=dec_iff.1 (by simpa using hgood2);have hn2:=hns hwin;have hok:=yA hwf hwin;have hnl:=jq (Nat.le_refl l.length);have hpf:=Dw hwf hwin;obtain ⟨ns,hnse⟩: ∃ns,ns=bQ l l.length:=⟨_,rfl⟩;rw [<-hnse] at hn2 hok hnl hpf;obtain ⟨N,ncap,rfl,_⟩:=hn2.form;have husl:(bS ns).length=ns.length:=by simp [bS]
 have huok:=Kq hok;have huwin:=zV hok;refine ag ?_;refine ai rfl (fun hz=> ?_) (fun hnz=> ?_)
 ·refine ag ?_;refine jH rfl ⟨b2,.slice none 0 0,?_⟩;have h0:l= []:=List.eq_nil_of_length_eq_zero (by omega);rw [ay (p:=WfE d l/\Poss d l) ⟨hwf,by rw [h0]; exact tF d⟩]
 have hn0:0<ns.length:=by omega
 obtain ⟨nd,rfl⟩:=hn2.addr hn0;refine ag ?_;refine aJ [0,1,8] (fun x:Nat×Value=> [(10,none,x.2),(11,none,.int .i64 (x.1:Int))])
  (fun x W=>x.1<=ns.length/\Below w2.heap.size w2 W/\RL W x.2 (fH (bS ns) x.1)/\ ∀g,x.2.ownBlock=some g->w2.heap.size<=g) (fun x=>ns.length-x.1) (0,.slice none 0 0) ⟨ZB,ZA,OwnS.nil _ _ _,fun g hg=>by simp [Value.ownBlock] at hg⟩ ?_
 rintro ⟨i,cv⟩ W ⟨hi,hB,hR,hown⟩;dsimp only at hi hR hown;refine ag ?_;refine aI [0,1,8,10,11,36] rfl ?_;refine ai rfl (fun hlt=> ?_) (fun hge=> ?_)
 ·obtain ⟨x,hx,hxm⟩:=bD (l:=ns) (k:=i) (by omega);have hnW:=hn2.below hB;have hxc:=iL hnW hx;have hp16:=lq (i:=i) (by omega);have hst:ib (bS ns) i=⟨x.low,i,1 <<< i,-1⟩:=by
   unfold ib;rw [kT hx];rfl
  obtain ⟨CA,ccap,rfl,_⟩:=hR.form;refine ag ?_;refine dE mixed fun W3 hb3=> ?_;refine dL .weak 11 (by kernel_rfl) (by kernel_rfl) rfl rfl hb3 ?_;refine aZ ?_;refine aB rfl (hxc 3 _ rfl) ?_;refine aZ ?_;refine fE (.ex (.int .i64 ((2 ^ i:Nat):Int))) trivial rfl (fun _ w' hb'=>(mQ (i:=i) (by omega)).mono fun u w'' ⟨h1,h2⟩=>⟨h1,h2⟩) ?_;refine jA [0,1,2,3] [.tmp 44,.tmp 45,.tmp 47,.const (.int .i64 (-1))] [.int .i64 x.low,.int .i64 (i:Int),.int .i64 ((2 ^ i:Nat):Int),.int .i64 (-1)] rfl rfl rfl rfl (ax rfl ct (ax rfl ct (ax rfl ct (ax rfl ct aP)))) (by kernel_rfl) ?_;refine cK 272 _ rfl rfl rfl HZ (ax rfl ct aP) rfl rfl rfl rfl rfl ?_;refine dD (ii [0,1,8,10,11,39] [(0,_,_),(1,_,_),(8,_,_),(10,_,_),(11,_,_),(39,_,_)] rfl [49] rfl fun vs w3 b3 hs3=>ek ?_);obtain ⟨v49,rfl,h49⟩:=Sats.one hs3;obtain ⟨g3,rfl,hB3⟩:=h49;refine bV (by kernel_rfl) (by kernel_rfl) rfl ?_;refine aK (di (ib (bS ns) i)) rfl rfl Hf rfl (hR.below b3) rfl rfl (fun j v hj=>⟨⟨g3,0,none⟩,rfl,?_⟩) (fun v hv=>by simp [di] at hv; rcases hv with rfl|rfl|rfl|rfl<;>rfl) (by have:=lS (bS ns) i; omega) (by omega) ?_
  ·rw [hst,Nat.one_shiftLeft] at hj;exact hB3.fld hj
  rintro cv' w4 o4 hg4 hn4;refine bG (aS [0,1,8,10,11,50] [(0,_,_),(1,_,_),(8,_,_),(10,_,_),(11,_,_),(50,_,_)] rfl (dJ ?_));refine bV (by kernel_rfl) (by kernel_rfl) rfl ?_;refine aT df rfl ⟨ct,trivial⟩ (fun _=>trivial) ?_;refine bG (aS [0,1,8,10,11] [(0,_,_),(1,_,_),(8,_,_),(10,_,_),(11,_,_)] rfl (dJ ?_));refine ed rfl (aS [0,1,8,10,11] [(0,_,_),(1,_,_),(8,_,_),(10,_,_),(11,_,_)] rfl (bP (aD ?_)));refine ag ?_;have hB3':=hB.step b3;refine aC (i+1,cv') ⟨by show i+1<=ns.length; omega,hB3'.grown hg4 hB3'.size hown,?_,fun g hg=> ?_⟩
  ·show OwnS w4 _ 4 cv' (fH (bS ns) (i+1)).length ((fH (bS ns) (i+1)).flatMap di);rw [qX,List.flatMap_append];simpa using o4
  ·rcases hn4 with h|h
   ·exact hown g (by rw [<-h]; exact hg)
   ·rw [h] at hg; cases hg; exact hB3'.size
 have hie:i=ns.length:=by omega
 subst hie;have hdp0:=xI (d:=d) huwin;have hgood0:Feas d (none,0) (bS ns)->uJ d (bS ns) 1 (fH (bS ns) (bS ns).length):=sS hwf.wd huok huwin (fun e=>by rw [e] at husl; simp at husl; omega);rw [husl] at hdp0 hgood0;refine ag ?_;refine aJ [0,1,8] (fun x:Nat×Value×List RS=> [(10,none,x.2.1),(12,none,.int .i64 ((x.1:Int)+1))])
  (fun x W=>x.1+1<=ns.length/\Below w2.heap.size w2 W/\RL W x.2.1 x.2.2/\(∀g,x.2.1.ownBlock=some g->w2.heap.size<=g)/\(∃b,DP d (bS ns) x.1 b x.2.2)/\0<x.2.2.length/\(Feas d (none,0) (bS ns)->uJ d (bS ns) (x.1+1) x.2.2)) (fun x=>ns.length-x.1) (0,cv,fH (bS ns) ns.length) ⟨by show 0+1<=ns.length; omega,hB,hR,hown,⟨0,hdp0⟩,by rw [lS]; omega,hgood0⟩ ?_
 rintro ⟨r,cv1,L⟩ W1 ⟨hr,hB1,hR1,hown1,⟨b,hdpL⟩,hL0,hgoodL⟩;dsimp only at hr hR1 hown1 hdpL hL0 hgoodL;obtain ⟨C1,cc1,rfl,_⟩:=hR1.form;have hfewL:=hdpL.few (by omega);refine ag ?_;refine ai rfl (fun hlt1=> ?_) (fun hge1=> ?_)
 ·have hdpR:=hdpL.round;refine ag ?_;refine aJ [0,1,8,12,13] (fun x:Nat×Value×List RS=> [(10,none,x.2.1),(14,none,.int .i64 (x.1:Int))])
   (fun x W=>x.1<=L.length/\Below w2.heap.size w2 W/\RL W x.2.1 x.2.2/\(∀g,x.2.1.ownBlock=some g->w2.heap.size<=g)/\DP d (bS ns) (r+1) L.length x.2.2/\Lat L.length L x.2.2/\ ∀(j:Nat) s,j<x.1->L[j]?=some s->pc s.set=r+1->Done d (bS ns) s x.2.2 ns.length) (fun x=>L.length-x.1) (0,.slice C1 L.length cc1,L) ⟨ZB,hB1,hR1,hown1,hdpR,Lat.refl ZC,fun j s hj=>by omega⟩ ?_
  rintro ⟨k,cv2,M⟩ W2 ⟨hk,hB2,hR2,hown2,hdpM,hlat,hdone⟩;dsimp only at hk hR2 hown2 hdpM hlat hdone;have hML:L.length<=M.length:=by
   have h1:=congrArg List.length hlat.2.1;simp only [List.length_take] at h1;omega
  refine ag ?_;refine ai rfl (fun hlt2=> ?_) (fun hge2=> ?_)
  ·obtain ⟨s,hs,hsm⟩:=bD (l:=L) (k:=k) (by omega);have hsM:M[k]?=some s:=by
    have h1:(M.take L.length)[k]?=(L.take L.length)[k]?:=by rw [hlat.2.1]
    rw [List.getElem?_take_of_lt (by omega),List.getElem?_take_of_lt (by omega),hs] at h1;exact h1
   have hdW:SL (sliceT bC) (fun q=>q<w.heap.size) W2 (.slice D d.length dcap) d:=hd.below (b2.step hB2);have hnW:=hn2.below hB2;have hbs:=b2.size;refine ag ?_;rw [show ((r:Int)+1)=((r+1:Nat):Int) by omega];refine aA rfl (F3 hdW hwf.wd hnW hok (by omega) hR2 (fun q hq e=>by have:=hown2 q e; omega) (fun q hq e=>by have:=hown2 q e; omega) hdpM hML hsM (by omega)) ?_;rintro cv3 w3 ⟨hg3,ho3,L3,hR3,hdp3,hlat3,hdone3⟩;refine ag ?_;have hs2:=hB2.size;refine aC (k+1,cv3,L3) ⟨by show k+1<=L.length; omega,hB2.grown hg3 hB2.size hown2,hR3,fun g hg=> ?_,hdp3,hlat.trans hlat3,fun j s' hj hs' hp=> ?_⟩
   ·rcases ho3 g hg with h|h
    ·exact hown2 g h
    ·omega
   ·by_cases hjk:j<k
    ·exact (hdone j s' hjk hs' hp).lat hlat3
    ·have:j=k:=by have hj:j<k+1:=hj; omega
     subst this;rw [hs] at hs';cases hs';exact hdone3 hp
  ·have hke:k=L.length:=by omega
   subst hke;refine ag ?_;rw [show ((r:Int)+1+1)=(((r+1:Nat):Int)+1) by omega];refine aC (r+1,cv2,M) ⟨by show r+1+1<=ns.length; omega,hB2,hR2,hown2,⟨_,hdpM⟩,by show 0<M.length; omega,fun hf=> ?_⟩;obtain ⟨s,hs,hsp,hsf⟩:=hgoodL hf;obtain ⟨j,hj⟩:=List.mem_iff_getElem?.1 hs;have hjl:=(ZE hj).1;have hsok:=hdpL.each s hs;have hleft:=l7 (bS ns) s.set hsok.bits;have hsokS:=hsok.way.sok huok;obtain ⟨i,u,h1,h2,h3,h4,h5⟩:=qN hwf.wd huok hsokS hsf (fun e=>by rw [e] at hleft; simp only [List.length_nil] at hleft; omega);have hil:i<ns.length:=by have:=(ZE h1).1; omega
   have hhas:=hdone j s hjl hj hsp i u hil h1 h2 h3 h4;have hg:=yP huok h1 hhas h5;rw [(Cm (by omega) hsok.bits h2).1,hsp] at hg;exact hg
 have hrn:r+1=ns.length:=by omega
 have hRsl:=RL.sl hR1 (by omega);obtain ⟨cg1,rfl⟩:=si hR1 hL0;have hp16:=lq (i:=ns.length) (by omega);have hp:=Nat.two_pow_pos ns.length;have hn1:=hn2.below hB1;refine ag ?_;refine aJ [1,8,10] (fun x:Nat=> [(15,none,.int .i64 ((x:Int)-1))])
  (fun x W=>x<=L.length/\Below W1.heap.size W1 W/\ ∀(j:Nat) s,x<=j->L[j]?=some s->s.set≠2 ^ ns.length-1) (fun x=>x) L.length ⟨ZC,ZA,fun j s h1 h2=>by have:=(ZE h2).1; omega⟩ ?_
 rintro j W3 ⟨hj,hB3,hnone⟩;refine ag ?_;refine ai rfl (fun hlt3=> ?_) (fun hge3=> ?_)
 ·obtain ⟨i,rfl⟩: ∃i,j=i+1:=⟨j-1,by omega⟩;rw [show (((i+1:Nat):Int)-1)=(i:Int) by omega];obtain ⟨s,hs,hsm⟩:=bD (l:=L) (k:=i) (by omega);have hR3:=hR1.below hB3;have hsc:=qE hR3 (by omega) hs;refine ag ?_;refine bg mixed (by kernel_rfl) ?_;refine aZ ?_;refine aB rfl (hsc 2 _ rfl) ?_;refine aZ ?_;refine fE (.ex (.int .i64 ((2 ^ ns.length:Nat):Int))) trivial rfl (fun _ w' hb'=>(mQ (i:=ns.length) (by omega)).mono fun u w'' ⟨h1,h2⟩=>⟨h1,h2⟩) ?_;refine bL CV rfl ⟨ct,ct,trivial⟩ (fun _=>by omega) ?_;refine aZ ?_;refine bR [1,8,10,15,87] rfl fun w4 b4=> ?_;refine aD ?_;have hB4:=hB3.step b4;refine ai rfl (fun heq=> ?_) (fun hne=> ?_)
  ·have hset:s.set=2 ^ ns.length-1:=by omega
   have hf:Feas d (none,0) (bS ns):=vL hdpL.each ⟨s,hsm,by rw [husl]; exact hset⟩;refine ag ?_;have hbk: ∀(q:Nat) s',L[q]?=some s'->s'.frm<q/\ -1<=s'.frm/\s'.last<ns.length/\0<=s'.time/\s'.time<=1000000:=fun q s' hs'=>by
    have h1:=hdpL.each s' (ZF hs');have h2:=h1.last;exact ⟨hdpL.back q s' hs',h1.f1,by omega,h1.t0,h1.t1⟩
   refine aA rfl (xO (hn1.below hB4) hok hl16 (hRsl.below hB4) hbk (by omega)) ?_;rintro tv w5 c5;refine ag ?_;refine jH rfl ⟨b2.step (hB1.step (hB4.step c5)),tv,?_⟩;rw [ay (p:=WfE d l/\Poss d l) ⟨hwf,hpf.2 hf⟩]
  ·refine ag ?_;refine aC i ⟨by omega,hB4,fun q s' hq hs'=> ?_⟩;by_cases hqi:q=i
   ·subst hqi;rw [hs] at hs';cases hs';intro e;omega
   ·exact hnone q s' (by omega) hs'
 ·refine ag ?_;refine jH rfl ⟨b2.step (hB1.step hB3),.slice none 0 0,?_⟩;rw [az (p:=WfE d l/\Poss d l)];rintro ⟨_,hp⟩;have hg:=hgoodL (hpf.1 hp);rw [hrn,<-husl] at hg;obtain ⟨s,hs,he⟩:=vK hdpL.each hg;obtain ⟨q,hq⟩:=List.mem_iff_getElem?.1 hs;exact hnone q s (by omega) hq (by rw [<-husl]; exact he)
theorem pM (ha:dF a<=bM a) (hb:dF b<=bM b):(gy n a b g).u=jU a b g:=by
 obtain ⟨h1,h2⟩:=sI ha;obtain ⟨h3,h4⟩:=sI hb;unfold gy Nd.u jU;simp only [h1,h2,h3,h4]
theorem sN (hle:l=rest++ [a,b]) (h:WfE d l):WfE d rest/\EOK d a/\EOK d b :=
 ⟨⟨h.wd,by have:=h.few; rw [hle,List.length_append] at this; omega,fun e he=>h.each e (by rw [hle]; exact List.mem_append_left _ he)⟩,h.each a (by rw [hle]; simp),h.each b (by rw [hle]; simp)⟩
theorem DT (hn:rest.length=n) (h:NodesJ d rest a b g):bS (gy n a b g::bQ rest n)=jU a b g::rest.map gZ:=by
 have:=yz h.each;rw [hn] at this;show (gy n a b g).u::bS (bQ rest n)=_;rw [this,pM h.wa h.wb]
theorem yg (hle:l=rest++ [a,b]) (hg:0<=g/\g<=1000000) (hw:WfE d l) (h:PossJ d rest a b g):NodesJ d rest a b g:=by
 obtain ⟨hr,ha,hb⟩:=sN hle hw;have hall:=((nO hw.wd hr.each ha hb hg.1 h.1 (List.Perm.refl _)).1 h).1;have hj:=hall (jU a b g) (by simp);have e1:(jU a b g).low=max (dF a) (dF b-g):=rfl;have e2:(jU a b g).high=min (bM a) (bM b-g):=rfl;have hwa:dF a<=bM a:=by omega
 have hwb:dF b<=bM b:=by omega
 refine ⟨h.1,hwa,hwb,?_,fun e he=>hall (gZ e) (List.mem_cons_of_mem _ (List.mem_map_of_mem he))⟩;have:=congrArg U.low (pM (n:=0) (g:=g) hwa hwb);have h2:=congrArg U.high (pM (n:=0) (g:=g) hwa hwb);have q1:(gy 0 a b g).low=(jU a b g).low:=this;have q2:(gy 0 a b g).high=(jU a b g).high:=h2;omega
theorem Am (hle:l=rest++ [a,b]) (hn:rest.length=n) (hg:0<=g/\g<=1000000) (hw:WfE d l) (h:NodesJ d rest a b g):PossJ d rest a b g↔Feas d (none,0) (bS (gy n a b g::bQ rest n)):=by
 obtain ⟨hr,ha,hb⟩:=sN hle hw;rw [nO hw.wd hr.each ha hb hg.1 h.leg (List.Perm.refl _),DT hn h];refine ⟨fun h=>h.2,fun hf=>⟨fun u hu=> ?_,hf⟩⟩;rcases List.mem_cons.1 hu with rfl|hu
 ·rw [<-pM (n:=0) h.wa h.wb];exact h.wj
 ·obtain ⟨e,he,rfl⟩:=List.mem_map.1 hu;exact h.each e he
theorem DU (hle:l=rest++ [a,b]) (hn:rest.length=n) (hg:0<=g/\g<=1000000) (hw:WfE d l) (h:NodesJ d rest a b g): ∀x∈gy n a b g::bQ rest n,NdOK d l.length x:=by
 obtain ⟨hr,ha,hb⟩:=sN hle hw;have hll:l.length=n+2:=by rw [hle,List.length_append,hn]; rfl
 intro x hx;rcases List.mem_cons.1 hx with rfl|hx
 ·have r1:=pY a;have r2:=pY b;have hu:=pM (n:=n) (g:=g) h.wa h.wb;refine ⟨ha.o1,hb.o1,hg.1,hg.2,?_,h.wj,?_,by rw [hu]; exact Cy ha hb h.leg,by show (0:Int)<=n; omega,by show (n:Int)<_; omega,by show ((n:Int)+1)<_; omega⟩
  ·show 0<=max (dB a).low ((dB b).low-g);omega
  ·show min (dB a).high ((dB b).high-g)<=1000000;omega
 ·rw [<-hn] at hx;have q:=yA hr h.each x hx;exact ⟨q.o0,q.e0,q.g0,q.g1,q.w0,q.w1,q.w2,q.uok,q.f0,by have:=q.f1; omega,by have:=q.s1; omega⟩
theorem Jp {ea eb:Ev} (hd:SD w dv d) (hl:SE w lv l) (hleg:LegAt w la n gp) (hle:l=rest++ [ea,eb]) (hn:rest.length=n) (hgp:0<=gp/\gp<=1000000) :
  Gives prog 166 #[dv,lv,.slice (some la) 1 lc] w fun x w'=>Below w.heap.size w w'/\ ∃tv,x= .tuple #[tv,.bool (dec (WfE d l/\PossJ d rest ea eb gp))]:=by
 obtain ⟨D,dcap,rfl,_⟩:=hd.form;obtain ⟨B,bcap,rfl,_⟩:=hl.form;have hll:l.length=n+2:=by rw [hle,List.length_append,hn]; rfl
 refine gv (f:=166) ?_;refine ag ?_;refine aA rfl (Dj hd hl hleg hll hgp) ?_;rintro y w1 ⟨c1,rfl⟩;refine ag ?_;refine au rfl (fun hbad=> ?_) (fun hgood=> ?_)
 ·refine ag ?_;refine jH rfl ⟨c1,.slice none 0 0,?_⟩;rw [az (p:=WfE d l/\PossJ d rest ea eb gp)];rintro ⟨h,_⟩;rw [ay h] at hbad;simp at hbad
 have hwf:WfE d l:=dec_iff.1 (by simpa using hgood);have hl16:=hwf.few;refine ag ?_;refine aA rfl (Do (aU hd c1) (aY hl c1) (hleg.below c1) hle hn hgp hwf) ?_;rintro y w2 ⟨c2,nv,rfl,hns⟩;have b2:=c1.step c2;refine ag ?_;refine aI [0,1,2,6,7,8,9,29] rfl ?_;refine au rfl (fun hbad2=> ?_) (fun hgood2=> ?_)
 ·refine ag ?_;refine jH rfl ⟨b2,.slice none 0 0,?_⟩;rw [az (p:=WfE d l/\PossJ d rest ea eb gp)];rintro ⟨h,hp⟩;rw [ay (yg hle hgp h hp)] at hbad2;simp at hbad2
 have hwin:NodesJ d rest ea eb gp:=dec_iff.1 (by simpa using hgood2);have hn2:=hns hwin;have hok:=DU hle hn hgp hwf hwin;have hnl:(gy n ea eb gp::bQ rest n).length=n+1:=by rw [List.length_cons,jq (by omega)]
 have hpf:=Am hle hn hgp hwf hwin;obtain ⟨ns,hnse⟩: ∃ns,ns=gy n ea eb gp::bQ rest n:=⟨_,rfl⟩;rw [<-hnse] at hn2 hok hnl hpf;obtain ⟨N,ncap,rfl,_⟩:=hn2.form;have husl:(bS ns).length=ns.length:=by simp [bS]
 have huok:=Kq hok;have huwin:=zV hok;refine ag ?_;refine ai rfl (fun hz=> ?_) (fun hnz=> ?_)
 ·refine ag ?_;refine jH rfl ⟨b2,.slice none 0 0,?_⟩;exact absurd hz (by omega)
 have hn0:0<ns.length:=by omega
 obtain ⟨nd,rfl⟩:=hn2.addr hn0;refine ag ?_;refine aJ [0,1,8] (fun x:Nat×Value=> [(10,none,x.2),(11,none,.int .i64 (x.1:Int))])
  (fun x W=>x.1<=ns.length/\Below w2.heap.size w2 W/\RL W x.2 (fH (bS ns) x.1)/\ ∀g,x.2.ownBlock=some g->w2.heap.size<=g) (fun x=>ns.length-x.1) (0,.slice none 0 0) ⟨ZB,ZA,OwnS.nil _ _ _,fun g hg=>by simp [Value.ownBlock] at hg⟩ ?_
 rintro ⟨i,cv⟩ W ⟨hi,hB,hR,hown⟩;dsimp only at hi hR hown;refine ag ?_;refine aI [0,1,8,10,11,36] rfl ?_;refine ai rfl (fun hlt=> ?_) (fun hge=> ?_)
 ·obtain ⟨x,hx,hxm⟩:=bD (l:=ns) (k:=i) (by omega);have hnW:=hn2.below hB;have hxc:=iL hnW hx;have hp16:=lq (i:=i) (by omega);have hst:ib (bS ns) i=⟨x.low,i,1 <<< i,-1⟩:=by
   unfold ib;rw [kT hx];rfl
  obtain ⟨CA,ccap,rfl,_⟩:=hR.form;refine ag ?_;refine dE mixed fun W3 hb3=> ?_;refine dL .weak 11 (by kernel_rfl) (by kernel_rfl) rfl rfl hb3 ?_;refine aZ ?_;refine aB rfl (hxc 3 _ rfl) ?_;refine aZ ?_;refine fE (.ex (.int .i64 ((2 ^ i:Nat):Int))) trivial rfl (fun _ w' hb'=>(mQ (i:=i) (by omega)).mono fun u w'' ⟨h1,h2⟩=>⟨h1,h2⟩) ?_;refine jA [0,1,2,3] [.tmp 44,.tmp 45,.tmp 47,.const (.int .i64 (-1))] [.int .i64 x.low,.int .i64 (i:Int),.int .i64 ((2 ^ i:Nat):Int),.int .i64 (-1)] rfl rfl rfl rfl (ax rfl ct (ax rfl ct (ax rfl ct (ax rfl ct aP)))) (by kernel_rfl) ?_;refine cK 272 _ rfl rfl rfl HZ (ax rfl ct aP) rfl rfl rfl rfl rfl ?_;refine dD (ii [0,1,8,10,11,39] [(0,_,_),(1,_,_),(8,_,_),(10,_,_),(11,_,_),(39,_,_)] rfl [49] rfl fun vs w3 b3 hs3=>ek ?_);obtain ⟨v49,rfl,h49⟩:=Sats.one hs3;obtain ⟨g3,rfl,hB3⟩:=h49;refine bV (by kernel_rfl) (by kernel_rfl) rfl ?_;refine aK (di (ib (bS ns) i)) rfl rfl Hf rfl (hR.below b3) rfl rfl (fun j v hj=>⟨⟨g3,0,none⟩,rfl,?_⟩) (fun v hv=>by simp [di] at hv; rcases hv with rfl|rfl|rfl|rfl<;>rfl) (by have:=lS (bS ns) i; omega) (by omega) ?_
  ·rw [hst,Nat.one_shiftLeft] at hj;exact hB3.fld hj
  rintro cv' w4 o4 hg4 hn4;refine bG (aS [0,1,8,10,11,50] [(0,_,_),(1,_,_),(8,_,_),(10,_,_),(11,_,_),(50,_,_)] rfl (dJ ?_));refine bV (by kernel_rfl) (by kernel_rfl) rfl ?_;refine aT df rfl ⟨ct,trivial⟩ (fun _=>trivial) ?_;refine bG (aS [0,1,8,10,11] [(0,_,_),(1,_,_),(8,_,_),(10,_,_),(11,_,_)] rfl (dJ ?_));refine ed rfl (aS [0,1,8,10,11] [(0,_,_),(1,_,_),(8,_,_),(10,_,_),(11,_,_)] rfl (bP (aD ?_)));refine ag ?_;have hB3':=hB.step b3;refine aC (i+1,cv') ⟨by show i+1<=ns.length; omega,hB3'.grown hg4 hB3'.size hown,?_,fun g hg=> ?_⟩
  ·show OwnS w4 _ 4 cv' (fH (bS ns) (i+1)).length ((fH (bS ns) (i+1)).flatMap di);rw [qX,List.flatMap_append];simpa using o4
  ·rcases hn4 with h|h
   ·exact hown g (by rw [<-h]; exact hg)
   ·rw [h] at hg; cases hg; exact hB3'.size
 have hie:i=ns.length:=by omega
 subst hie;have hdp0:=xI (d:=d) huwin;have hgood0:Feas d (none,0) (bS ns)->uJ d (bS ns) 1 (fH (bS ns) (bS ns).length):=sS hwf.wd huok huwin (fun e=>by rw [e] at husl; simp at husl; omega);rw [husl] at hdp0 hgood0;refine ag ?_;refine aJ [0,1,8] (fun x:Nat×Value×List RS=> [(10,none,x.2.1),(12,none,.int .i64 ((x.1:Int)+1))])
  (fun x W=>x.1+1<=ns.length/\Below w2.heap.size w2 W/\RL W x.2.1 x.2.2/\(∀g,x.2.1.ownBlock=some g->w2.heap.size<=g)/\(∃b,DP d (bS ns) x.1 b x.2.2)/\0<x.2.2.length/\(Feas d (none,0) (bS ns)->uJ d (bS ns) (x.1+1) x.2.2)) (fun x=>ns.length-x.1) (0,cv,fH (bS ns) ns.length) ⟨by show 0+1<=ns.length; omega,hB,hR,hown,⟨0,hdp0⟩,by rw [lS]; omega,hgood0⟩ ?_
 rintro ⟨r,cv1,L⟩ W1 ⟨hr,hB1,hR1,hown1,⟨b,hdpL⟩,hL0,hgoodL⟩;dsimp only at hr hR1 hown1 hdpL hL0 hgoodL;obtain ⟨C1,cc1,rfl,_⟩:=hR1.form;have hfewL:=hdpL.few (by omega);refine ag ?_;refine ai rfl (fun hlt1=> ?_) (fun hge1=> ?_)
 ·have hdpR:=hdpL.round;refine ag ?_;refine aJ [0,1,8,12,13] (fun x:Nat×Value×List RS=> [(10,none,x.2.1),(14,none,.int .i64 (x.1:Int))])
   (fun x W=>x.1<=L.length/\Below w2.heap.size w2 W/\RL W x.2.1 x.2.2/\(∀g,x.2.1.ownBlock=some g->w2.heap.size<=g)/\DP d (bS ns) (r+1) L.length x.2.2/\Lat L.length L x.2.2/\ ∀(j:Nat) s,j<x.1->L[j]?=some s->pc s.set=r+1->Done d (bS ns) s x.2.2 ns.length) (fun x=>L.length-x.1) (0,.slice C1 L.length cc1,L) ⟨ZB,hB1,hR1,hown1,hdpR,Lat.refl ZC,fun j s hj=>by omega⟩ ?_
  rintro ⟨k,cv2,M⟩ W2 ⟨hk,hB2,hR2,hown2,hdpM,hlat,hdone⟩;dsimp only at hk hR2 hown2 hdpM hlat hdone;have hML:L.length<=M.length:=by
   have h1:=congrArg List.length hlat.2.1;simp only [List.length_take] at h1;omega
  refine ag ?_;refine ai rfl (fun hlt2=> ?_) (fun hge2=> ?_)
  ·obtain ⟨s,hs,hsm⟩:=bD (l:=L) (k:=k) (by omega);have hsM:M[k]?=some s:=by
    have h1:(M.take L.length)[k]?=(L.take L.length)[k]?:=by rw [hlat.2.1]
    rw [List.getElem?_take_of_lt (by omega),List.getElem?_take_of_lt (by omega),hs] at h1;exact h1
   have hdW:SL (sliceT bC) (fun q=>q<w.heap.size) W2 (.slice D d.length dcap) d:=hd.below (b2.step hB2);have hnW:=hn2.below hB2;have hbs:=b2.size;refine ag ?_;rw [show ((r:Int)+1)=((r+1:Nat):Int) by omega];refine aA rfl (F3 hdW hwf.wd hnW hok (by omega) hR2 (fun q hq e=>by have:=hown2 q e; omega) (fun q hq e=>by have:=hown2 q e; omega) hdpM hML hsM (by omega)) ?_;rintro cv3 w3 ⟨hg3,ho3,L3,hR3,hdp3,hlat3,hdone3⟩;refine ag ?_;have hs2:=hB2.size;refine aC (k+1,cv3,L3) ⟨by show k+1<=L.length; omega,hB2.grown hg3 hB2.size hown2,hR3,fun g hg=> ?_,hdp3,hlat.trans hlat3,fun j s' hj hs' hp=> ?_⟩
   ·rcases ho3 g hg with h|h
    ·exact hown2 g h
    ·omega
   ·by_cases hjk:j<k
    ·exact (hdone j s' hjk hs' hp).lat hlat3
    ·have:j=k:=by have hj:j<k+1:=hj; omega
     subst this;rw [hs] at hs';cases hs';exact hdone3 hp
  ·have hke:k=L.length:=by omega
   subst hke;refine ag ?_;rw [show ((r:Int)+1+1)=(((r+1:Nat):Int)+1) by omega];refine aC (r+1,cv2,M) ⟨by show r+1+1<=ns.length; omega,hB2,hR2,hown2,⟨_,hdpM⟩,by show 0<M.length; omega,fun hf=> ?_⟩;obtain ⟨s,hs,hsp,hsf⟩:=hgoodL hf;obtain ⟨j,hj⟩:=List.mem_iff_getElem?.1 hs;have hjl:=(ZE hj).1;have hsok:=hdpL.each s hs;have hleft:=l7 (bS ns) s.set hsok.bits;have hsokS:=hsok.way.sok huok;obtain ⟨i,u,h1,h2,h3,h4,h5⟩:=qN hwf.wd huok hsokS hsf (fun e=>by rw [e] at hleft; simp only [List.length_nil] at hleft; omega);have hil:i<ns.length:=by have:=(ZE h1).1; omega
   have hhas:=hdone j s hjl hj hsp i u hil h1 h2 h3 h4;have hg:=yP huok h1 hhas h5;rw [(Cm (by omega) hsok.bits h2).1,hsp] at hg;exact hg
 have hrn:r+1=ns.length:=by omega
 have hRsl:=RL.sl hR1 (by omega);obtain ⟨cg1,rfl⟩:=si hR1 hL0;have hp16:=lq (i:=ns.length) (by omega);have hp:=Nat.two_pow_pos ns.length;have hn1:=hn2.below hB1;refine ag ?_;refine aJ [1,8,10] (fun x:Nat=> [(15,none,.int .i64 ((x:Int)-1))])
  (fun x W=>x<=L.length/\Below W1.heap.size W1 W/\ ∀(j:Nat) s,x<=j->L[j]?=some s->s.set≠2 ^ ns.length-1) (fun x=>x) L.length ⟨ZC,ZA,fun j s h1 h2=>by have:=(ZE h2).1; omega⟩ ?_
 rintro j W3 ⟨hj,hB3,hnone⟩;refine ag ?_;refine ai rfl (fun hlt3=> ?_) (fun hge3=> ?_)
 ·obtain ⟨i,rfl⟩: ∃i,j=i+1:=⟨j-1,by omega⟩;rw [show (((i+1:Nat):Int)-1)=(i:Int) by omega];obtain ⟨s,hs,hsm⟩:=bD (l:=L) (k:=i) (by omega);have hR3:=hR1.below hB3;have hsc:=qE hR3 (by omega) hs;refine ag ?_;refine bg mixed (by kernel_rfl) ?_;refine aZ ?_;refine aB rfl (hsc 2 _ rfl) ?_;refine aZ ?_;refine fE (.ex (.int .i64 ((2 ^ ns.length:Nat):Int))) trivial rfl (fun _ w' hb'=>(mQ (i:=ns.length) (by omega)).mono fun u w'' ⟨h1,h2⟩=>⟨h1,h2⟩) ?_;refine bL CV rfl ⟨ct,ct,trivial⟩ (fun _=>by omega) ?_;refine aZ ?_;refine bR [1,8,10,15,87] rfl fun w4 b4=> ?_;refine aD ?_;have hB4:=hB3.step b4;refine ai rfl (fun heq=> ?_) (fun hne=> ?_)
  ·have hset:s.set=2 ^ ns.length-1:=by omega
   have hf:Feas d (none,0) (bS ns):=vL hdpL.each ⟨s,hsm,by rw [husl]; exact hset⟩;refine ag ?_;have hbk: ∀(q:Nat) s',L[q]?=some s'->s'.frm<q/\ -1<=s'.frm/\s'.last<ns.length/\0<=s'.time/\s'.time<=1000000:=fun q s' hs'=>by
    have h1:=hdpL.each s' (ZF hs');have h2:=h1.last;exact ⟨hdpL.back q s' hs',h1.f1,by omega,h1.t0,h1.t1⟩
   refine aA rfl (xO (hn1.below hB4) hok hl16 (hRsl.below hB4) hbk (by omega)) ?_;rintro tv w5 c5;refine ag ?_;refine jH rfl ⟨b2.step (hB1.step (hB4.step c5)),tv,?_⟩;rw [ay (p:=WfE d l/\PossJ d rest ea eb gp) ⟨hwf,hpf.2 hf⟩]
  ·refine ag ?_;refine aC i ⟨by omega,hB4,fun q s' hq hs'=> ?_⟩;by_cases hqi:q=i
   ·subst hqi;rw [hs] at hs';cases hs';intro e;omega
   ·exact hnone q s' (by omega) hs'
 ·refine ag ?_;refine jH rfl ⟨b2.step (hB1.step hB3),.slice none 0 0,?_⟩;rw [az (p:=WfE d l/\PossJ d rest ea eb gp)];rintro ⟨_,hp⟩;have hg:=hgoodL (hpf.1 hp);rw [hrn,<-husl] at hg;obtain ⟨s,hs,he⟩:=vK hdpL.each hg;obtain ⟨q,hq⟩:=List.mem_iff_getElem?.1 hs;exact hnone q s (by omega) hq (by rw [<-husl]; exact he)
theorem Jj {u:Value} {S:List Int} (hl:SE w v l) (hS:SL bC F w u S) (hsm:l.length<=1000000) :
  Gives prog 99 #[v,u] w fun x w'=>Below w.heap.size w w'/\SE w' x (bz l S):=by
 obtain ⟨A,cap,rfl,_⟩:=hl.form;obtain ⟨B,bcap,rfl,_⟩:=hS.form;refine gv (f:=99) ?_;refine ag ?_;refine gJ 60 rfl rfl qP ?_;rintro g1 w1 f1;have hg1:=f1.at_;refine ag ?_;refine aJ [0,1] (fun x:Nat×Value×List (List Value×Ev)=> [(5,none,x.2.1),(6,none,.int .i64 (x.1:Int))])
  (fun x W'=>x.1<=l.length/\Below w.heap.size w W'/\RowL evT W' 60 w.heap.size x.2.1 x.2.2/\x.2.2.map (·.2)=bz (l.take x.1) S) (fun x=>l.length-x.1) (0,.slice (some ⟨g1,0,none⟩) 0 0,[]) ⟨ZB,f1.below,⟨bu f1.blk rfl (by omega),(fun p hp=>by cases hp),(fun g hg=>by simp [Value.ownBlock] at hg; omega)⟩,rfl⟩ ?_
 rintro ⟨k,rv,ps⟩ W ⟨hk,hB,hR,hmap⟩;dsimp only at hk hB hR hmap;refine ag ?_;refine ai rfl (fun hlt=> ?_) (fun hge=> ?_)
 ·have hkl:k<l.length:=by omega
  obtain ⟨e,he,hem⟩:=bD (l:=l) (k:=k) (by omega);obtain ⟨ad,rfl⟩:=hl.addr (by omega);obtain ⟨nv,hcells0,i1,i2,i3,hn0⟩:=SE.get hl he;obtain ⟨C,ncap,rfl,_⟩:=hn0.form;have hcells: ∀j v,[Value.int .i64 e.office,.int .i64 e.low,.int .i64 e.high,.slice C e.needs.length ncap][j]?=some v->W.cell? ((ad.add ((k:Int).toNat*4)).add j)=some v:=fun j v hv=>(hB.cell (block_lt_of_cell (hcells0 j v hv))).trans (hcells0 j v hv);have hneeds:=hn0.below hB;have hnmax:=hneeds.len.2.2;have cellsW: ∀W',Below W.heap.size W W'-> ∀j v,[Value.int .i64 e.office,.int .i64 e.low,.int .i64 e.high,.slice C e.needs.length ncap][j]?=some v->W'.cell? ((ad.add ((k:Int).toNat*4)).add j)=some v:=fun W' hb j v hv=>(hb.cell (block_lt_of_cell (hcells j v hv))).trans (hcells j v hv);have htk:bz (l.take (k+1)) S=bz (l.take k) S++if gone S e then [] else [e]:=by
   unfold bz;rw [ZG,he,List.filter_append];cases hq:gone S e<;>simp [List.filter,hq]
  refine ag ?_;refine aJ [0,1,5,6] (fun j:Nat=> [(7,none,.bool (!(e.needs.take j).any fun r=>S.contains r)),(8,none,.int .i64 (j:Int))])
   (fun j W'=>j<=e.needs.length/\Below W.heap.size W W') (fun j=>e.needs.length-j) 0 ⟨ZB,ZA⟩ ?_
  rintro j W2 ⟨hj,hB2⟩;refine ag ?_;refine aj rfl (cellsW W2 hB2 3 _ rfl) ?_;refine ag ?_;refine aI [0,1,5,6,7,8,23] rfl ?_;refine ai rfl (fun hlt2=> ?_) (fun hge2=> ?_)
  ·obtain ⟨x,hx,hxm⟩:=bD (l:=e.needs) (k:=j) (by omega);have hn2:=hneeds.below hB2;obtain ⟨cd,rfl⟩:=hn2.addr (by omega);refine ag ?_;refine aj rfl (cellsW W2 hB2 3 _ rfl) ?_;refine ag ?_;refine aj rfl (hn2.getI hx) ?_;refine aO (cap:= []) rfl rfl ie167.q rfl ct (aa rfl id (aa rfl id ah)) (fun _=>Kr ((hS.below hB).below hB2)) ?_;rintro w3 c3;refine ag ?_;refine aC (j+1) ⟨by omega,hB2.step c3⟩ (hp:= ?_);have ht:(e.needs.take (j+1)).any (fun r=>S.contains r)=((e.needs.take j).any (fun r=>S.contains r)||S.contains x):=by
    rw [ZG,hx,List.any_append];simp
   rw [ht];have hc:S.contains x=decide (x∈S):=by simp
   rw [hc];cases (e.needs.take j).any (fun r=>S.contains r)<;>rfl
  have hjn:j=e.needs.length:=by omega
  subst hjn;rw [List.take_length];have hg:(e.needs.any fun r=>S.contains r)=gone S e:=rfl;rw [hg];have hR2:=hR.step hB2;refine ag ?_;refine au rfl (fun hin=> ?_) (fun hout=> ?_)
  ·have hg0:gone S e=false:=by simpa using hin
   rw [hg0] at htk;refine ag ?_;refine aF rfl (cellsW W2 hB2) ?_;refine ak 60 _ rfl rfl rfl qP (aa rfl ct ah) rfl rfl rfl rfl rfl ?_;rintro g7 w7 f7;have hR7:=hR2.step f7.below;have hW7:=hB2.step f7.below;have hfew:ps.length<=1000000:=by
    have h1:ps.length=(bz (l.take k) S).length:=by rw [<-hmap]; simp
    have h2:(bz (l.take k) S).length<=(l.take k).length:=List.length_filter_le _ _;have h3:(l.take k).length<=l.length:=by rw [List.length_take]; omega
    omega
   refine aK [.int .i64 e.office,.int .i64 e.low,.int .i64 e.high,.slice C e.needs.length ncap] rfl rfl uS rfl hR7.1 rfl rfl (fun j v hj=>⟨⟨g7,0,none⟩,rfl,f7.blk.fld hj⟩) (fun v hv=>by simp at hv; rcases hv with rfl|rfl|rfl|rfl<;>rfl) (by omega) (by omega) ?_;rintro rv' w8 hO8 hg8 hnew8;refine ag ?_;have hBW7:=hB.step hW7;have hn7:SL bC (kF w7 rv) w7 (.slice C e.needs.length ncap) e.needs:=(hn0.below hBW7).wider (fun q hq=>⟨by have:=hBW7.size; omega,fun e=>by have:=hR.2.2 q e; omega⟩);have hR8:RowL evT w8 60 w.heap.size rv' (ps++ [([.int .i64 e.office,.int .i64 e.low,.int .i64 e.high,.slice C e.needs.length ncap],e)]):=hR7.app hO8 hg8 hnew8 ⟨_,rfl,i1,i2,i3,hn7⟩ hBW7.size;refine aC (k+1,rv',ps++ [([.int .i64 e.office,.int .i64 e.low,.int .i64 e.high,.slice C e.needs.length ncap],e)]) ⟨by show k+1<=l.length; omega,hBW7.grown hg8 hBW7.size hR.2.2,hR8,?_⟩;show List.map Prod.snd (ps++ [_])=bz (l.take (k+1)) S;rw [List.map_append,hmap,htk];simp
  ·have hg1:gone S e=true:=by simpa using hout
   rw [hg1] at htk;refine ag ?_;refine aC (k+1,rv,ps) ⟨by show k+1<=l.length; omega,hB.step hB2,hR2,?_⟩;show ps.map (·.2)=bz (l.take (k+1)) S;rw [hmap,htk];simp
 ·refine ag ?_;have hke:k=l.length:=by omega
  subst hke;refine aW rfl ⟨hB,?_⟩;have:=hR.sl (by decide);rw [hmap,List.take_length] at this;exact this
end Go.Proofs.YtobaafdejnimkaaGreatDoor
namespace Go.Proofs.YtobaafdejnimkaaGreatDoor
open Tryz
open Go.PF Go.RowKit Go.Ord
variable {W W':World} {b:Nat} {lv:Value} {rs:List (Value×List Int)}
structure Tab (W:World) (b:Nat) (lv:Value) (rs:List (Value×List Int)):Prop where
 own:OwnS W 32 1 lv rs.length (rs.map (·.1))
 lb: ∀g,lv.ownBlock=some g->b<=g
 row: ∀p∈rs,OwnS W 3 1 p.1 p.2.length (p.2.map (Value.int .i64))/\(∀x∈p.2,eB x)/\ ∀g,p.1.ownBlock=some g->b<=g/\lv.ownBlock≠some g
 dis:rs.Pairwise fun p q=> ∀g,p.1.ownBlock=some g->q.1.ownBlock≠some g
theorem Tab.step (h:Tab W b lv rs) (hb:Below W.heap.size W W'):Tab W' b lv rs :=
 ⟨h.own.below hb,h.lb,fun p hp=>⟨(h.row p hp).1.below hb,(h.row p hp).2⟩,h.dis⟩
theorem Tab.sdF (h:Tab W b lv rs) (hs:rs.length<=1000) (hr: ∀p∈rs,p.2.length<=1000):SL (sliceT bC) (fun k=>b<=k/\k<W.heap.size) W lv (rs.map (·.2)):=by
 have key:SL (sliceT bC) (fun k=>b<=k/\k<W.heap.size) W lv ((rs.map fun p=>([p.1],p.2)).map (·.2)):=by
  refine dR (T:=sliceT bC) (e:=32) (n:=rs.length) (rs.map fun p=>([p.1],p.2)) (fun q hq=> ?_) (by show 0<1; decide) ?_ (by simp) (fun g hg=>(⟨h.lb g hg,h.own.lt hg⟩:b<=g/\g<W.heap.size)) (by simp; omega)
  ·obtain ⟨p,hp,rfl⟩:=List.mem_map.1 hq;obtain ⟨h1,h2,h3⟩:=h.row p hp;exact ⟨p.1,rfl,dz h1 h2 (fun g hg=>(⟨(h3 g hg).1,h1.lt hg⟩:b<=g/\g<W.heap.size)) (by have:=hr p hp; show p.2.length<=_; omega)⟩
  ·have e:(rs.map fun p=>([p.1],p.2)).flatMap (·.1)=rs.map (·.1):=by
    clear h hs hr
    induction rs with
    | nil=>rfl
    | cons p rs ih=>simp only [List.map_cons,List.flatMap_cons,ih]; rfl
   rw [e];exact h.own
 rwa [List.map_map] at key
theorem Tab.sd (h:Tab W b lv rs) (hs:rs.length<=1000) (hr: ∀p∈rs,p.2.length<=1000):SD W lv (rs.map (·.2)):=(h.sdF hs hr).wider fun _ hk=>hk.2
theorem Tab.app {lv' rv:Value} {r:List Int} (h:Tab W b lv rs) (hO:OwnS W' 32 1 lv' (rs.length+1) (rs.map (·.1)++ [rv])) (hg:W.grownBy W' lv.ownBlock) (hn:lv'.ownBlock=lv.ownBlock∨lv'.ownBlock=some W.heap.size) (hb:b<=W.heap.size)
 (hr:OwnS W 3 1 rv r.length (r.map (Value.int .i64))) (hI: ∀x∈r,eB x) (hrb: ∀g,rv.ownBlock=some g->b<=g/\lv.ownBlock≠some g) (hd: ∀p∈rs,∀g,p.1.ownBlock=some g->rv.ownBlock≠some g):Tab W' b lv' (rs++ [(rv,r)]):=by
 have out: ∀(v:Value) (n:Nat) (xs:List Value),OwnS W 3 1 v n xs->(∀g,v.ownBlock=some g->lv.ownBlock≠some g)->OwnS W' 3 1 v n xs/\ ∀g,v.ownBlock=some g->lv'.ownBlock≠some g:=by
  intro v n xs ho hne;refine ⟨ho.kept fun g hg'=>hg.block g (ho.lt hg') (fun e=>hne g hg' e.symm),fun g hg' e=> ?_⟩;rcases hn with h'|h'
  ·exact hne g hg' (by rw [<-h']; exact e)
  ·rw [h'] at e; cases e; exact absurd (ho.lt hg') (Nat.lt_irrefl _)
 refine ⟨by simpa using hO,fun g hg'=> ?_,fun p hp=> ?_,?_⟩
 ·rcases hn with h'|h'
  ·exact h.lb g (by rw [<-h']; exact hg')
  ·rw [h'] at hg'; cases hg'; exact hb
 ·rcases ZH hp with hp|hp
  ·obtain ⟨h1,h2,h3⟩:=h.row p hp;obtain ⟨h4,h5⟩:=out _ _ _ h1 (fun g hg'=>(h3 g hg').2);exact ⟨h4,h2,fun g hg'=>⟨(h3 g hg').1,h5 g hg'⟩⟩
  ·rw [List.mem_singleton] at hp;subst hp;obtain ⟨h4,h5⟩:=out _ _ _ hr (fun g hg'=>(hrb g hg').2);exact ⟨h4,hI,fun g hg'=>⟨(hrb g hg').1,h5 g hg'⟩⟩
 ·refine List.pairwise_append.2 ⟨h.dis,List.pairwise_singleton _ _,fun p hp q hq=> ?_⟩;rw [List.mem_singleton] at hq;subst hq;exact hd p hp
theorem Tab.set {W W':World} {b i:Nat} {lv rv:Value} {rs:List (Value×List Int)} {r r':List Int} {g:Nat} (h:Tab W b lv rs) (hi:rs[i]?=some (rv,r)) (hrv:rv.ownBlock=some g) (hb:But g W W') (hO:OwnS W' 3 1 rv r'.length (r'.map (Value.int .i64))) (hI: ∀x∈r',eB x):Tab W' b lv (rs.set i (rv,r')):=by
 have hil:i<rs.length:=(ZE hi).1;have hie:rs[i]=(rv,r):=(ZE hi).2;have hm:=h.row (rv,r) (ZF hi);have hmap:(rs.set i (rv,r')).map (·.1)=rs.map (·.1):=by
  rw [List.map_set];apply List.ext_getElem?;intro j;rw [List.getElem?_set]
  split
  ·rename_i e;subst e;simp [hil,hie]
  ·rfl
 have hkeep: ∀k,k≠g->k<W.heap.size->W'.heap[k]?=W.heap[k]?:=fun k hk hlt=>hb.block k hlt (fun e=>hk (by cases e; rfl));refine ⟨by rw [hmap,List.length_set]; exact h.own.kept fun k hk=>hkeep k (fun e=>(hm.2.2 g hrv).2 (by rw [<-e]; exact hk)) (h.own.lt hk),h.lb,fun p hp=> ?_,?_⟩
 ·obtain ⟨j,hj⟩:=List.mem_iff_getElem?.1 hp;rw [List.getElem?_set] at hj;by_cases hne:i=j
  ·subst hne;simp [hil] at hj;subst hj;exact ⟨hO,hI,hm.2.2⟩
  ·rw [if_neg hne] at hj;have hpm:=h.row p (ZF hj);refine ⟨hpm.1.kept fun k hk=>hkeep k (fun e=> ?_) (hpm.1.lt hk),hpm.2⟩;subst e;obtain ⟨hjl,hje⟩:=ZE hj;rcases Nat.lt_or_gt_of_ne hne with hlt|hlt
   ·have:=List.pairwise_iff_getElem.1 h.dis i j hil hjl hlt;rw [hie,hje] at this;exact this k hrv hk
   ·have:=List.pairwise_iff_getElem.1 h.dis j i hjl hil hlt;rw [hie,hje] at this;exact this k hk hrv
 ·have h1:((rs.set i (rv,r')).map (·.1)).Pairwise fun p q=> ∀g,p.ownBlock=some g->q.ownBlock≠some g:=by
   rw [hmap,List.pairwise_map];exact h.dis
  rwa [List.pairwise_map] at h1
theorem Tab.nil {W:World} {b g:Nat} (hB:Blk W g 32 []) (hg:b<=g):Tab W b (.slice (some ⟨g,0,none⟩) 0 0) [] :=
 ⟨bu hB rfl (by omega),(fun q hq=>by simp [Value.ownBlock] at hq; omega),(fun p hp=>by cases hp),List.Pairwise.nil⟩
theorem Tab.but {g:Nat} (h:Tab W b lv rs) (hb:But g W W') (h1:lv.ownBlock≠some g) (h2: ∀p∈rs,p.1.ownBlock≠some g):Tab W' b lv rs :=
 ⟨h.own.kept fun k hk=>hb.block k (h.own.lt hk) (fun e=>h1 (by rw [hk,e])),h.lb,fun p hp=>⟨(h.row p hp).1.kept fun k hk=>hb.block k ((h.row p hp).1.lt hk) (fun e=>h2 p hp (by rw [hk,e])),(h.row p hp).2⟩,h.dis⟩
theorem Tab.len (h:Tab W b lv rs):(rs.map (·.1)).length=rs.length:=List.length_map _
theorem Tab.put {i tg:Nat} {rv:Value} {r:List Int} (h:Tab W b lv rs) (hi:i<rs.length) (hlv:lv.ownBlock=some tg) (hb:But tg W W') (hO:OwnS W' 32 1 lv rs.length ((rs.map (·.1)).set i rv)) (hr:OwnS W' 3 1 rv r.length (r.map (Value.int .i64))) (hI: ∀x∈r,eB x)
 (hrb: ∀g,rv.ownBlock=some g->b<=g/\lv.ownBlock≠some g) (hd: ∀p∈rs,∀g,p.1.ownBlock=some g->rv.ownBlock≠some g):Tab W' b lv (rs.set i (rv,r)):=by
 refine ⟨by rw [List.map_set,List.length_set]; exact hO,h.lb,fun p hp=> ?_,?_⟩
 ·rcases List.mem_or_eq_of_mem_set hp with hp|hp
  ·obtain ⟨h1,h2,h3⟩:=h.row p hp;exact ⟨h1.kept fun k hk=>hb.block k (h1.lt hk) (fun e=>(h3 k hk).2 (by cases e; exact hlv)),h2,h3⟩
  ·subst hp;exact ⟨hr,hI,hrb⟩
 ·rw [List.pairwise_iff_getElem];intro x y hx hy hxy;have hx':x<rs.length:=by simpa using hx
  have hy':y<rs.length:=by simpa using hy
  rw [List.getElem_set,List.getElem_set]
  split
  ·rw [if_neg (by omega)];intro g hg e;exact hd _ (List.getElem_mem hy') g e hg
  ·split
   ·intro g hg;exact hd _ (List.getElem_mem hx') g hg
   ·exact List.pairwise_iff_getElem.1 h.dis x y hx' hy' hxy
theorem Tab.start {g n:Nat} (hB:Blk W g 32 (List.replicate n (.slice none 0 0))) (hg:b<=g) (hn:n<=9223372036854775807):Tab W b (.slice (some ⟨g,0,none⟩) n n) (List.replicate n (.slice none 0 0,[])):=by
 refine ⟨?_,(fun q hq=>by simp [Value.ownBlock] at hq; omega),(fun p hp=> ?_),?_⟩
 ·rw [List.length_replicate,List.map_replicate];exact bu hB (by simp) hn
 ·rw [List.mem_replicate] at hp;rw [hp.2];exact ⟨OwnS.nil _ _ _,(fun x hx=>by cases hx),(fun g hg=>by simp [Value.ownBlock] at hg)⟩
 ·rw [List.pairwise_iff_getElem];intro x y hx hy _;simp [Value.ownBlock]
end Go.Proofs.YtobaafdejnimkaaGreatDoor
namespace Go.Proofs.YtobaafdejnimkaaGreatDoor
open Tryz
open Go.PF Go.RowKit Go.Ord
attribute [local irreducible] TW CW KW DW
variable {w:World} {M:dh} {n a:Nat} {s:ByteArray}
def Ad (M:dh) (n a:Nat):List Int:=(List.range n).map fun b=>g12 M a b
def vQ (M:dh) (n:Nat):List (List Int):=(List.range n).map fun a=>Ad M n a
def mz (M:dh) (n a j:Nat):List Int:=(List.range n).map fun b=>if b<j then g12 M a b else 0
theorem mM (M:dh) (n a j:Nat):(mz M n a j).length=n:=by simp [mz]
theorem Dl (M:dh) (n a:Nat):mz M n a 0=List.replicate n 0:=by
 apply List.ext_getElem?;intro i;simp [mz,List.getElem?_replicate]
 split
 ·rename_i h; simp [h]
 ·rename_i h; rw [List.getElem?_eq_none (by simpa using h)]; rfl
theorem FQ (M:dh) (n a:Nat):mz M n a n=Ad M n a:=by
 unfold mz Ad;exact List.map_congr_left fun b hb=>by rw [if_pos (List.mem_range.1 hb)]
theorem Dm {j:Nat} (hj:j<n):(mz M n a j).set j (g12 M a j)=mz M n a (j+1):=by
 apply List.ext_getElem?;intro i;rw [List.getElem?_set,mM];by_cases h:j=i
 ·subst h;simp [mz,hj]
 ·rw [if_neg h];unfold mz;rw [List.getElem?_map,List.getElem?_map];rcases ZI i n with hi|hi
  ·rw [List.getElem?_range hi];simp only [Option.map_some]
   congr 1
   by_cases h':i<j
   ·rw [if_pos h',if_pos (by omega)]
   ·rw [if_neg h',if_neg (by omega)]
  ·rw [List.getElem?_eq_none (by simpa using hi)]; rfl
theorem xS {L:List Ln} {B:Int} (h:T12 L B M) (hB:B<=1000000000) {j:Nat} (hn:n<=12) (ha:a<12): ∀x∈mz M n a j,eB x:=by
 intro x hx;obtain ⟨b,hb,rfl⟩:=List.mem_map.1 hx;have hb':=List.mem_range.1 hb;have:=h.rng a b ha (by omega)
 split
 ·exact ⟨by omega,by omega⟩
 ·exact ⟨by decide,by decide⟩
structure Rows12 (M:dh) (n a:Nat) (rs:List (Value×List Int)):Prop where
 len:rs.length=n
 at_: ∀i,i<a->(rs[i]?).map (·.2)=some (Ad M n i)
theorem Rows12.next {rs:List (Value×List Int)} (h:Rows12 M n a rs) (ha:a<n) (v:Value):Rows12 M n (a+1) (rs.set a (v,Ad M n a)):=by
 have hl:=h.len;refine ⟨by rw [List.length_set]; exact hl,fun i hi=> ?_⟩;rw [List.getElem?_set];by_cases e:a=i
 ·subst e;rw [if_pos rfl,if_pos (by omega)];rfl
 ·rw [if_neg e];exact h.at_ i (by omega)
theorem Rows12.all {rs:List (Value×List Int)} (h:Rows12 M n n rs):rs.map (·.2)=vQ M n:=by
 apply List.ext_getElem?;intro i;rw [List.getElem?_map];rcases ZI i n with hi|hi
 ·rw [h.at_ i hi];unfold vQ;rw [List.getElem?_map,List.getElem?_range hi];rfl
 ·rw [List.getElem?_eq_none (by have:=h.len; omega),List.getElem?_eq_none (by unfold vQ; simpa using hi)];rfl
theorem Mg {v:NV} {N:Net} (ht:Tabs w) (hN:dI w v N) (hc:ConsOK keys11 N):Gives prog 30 #[.agg v.cells.toArray] w fun u w'=>Below w.heap.size w w'/\SD w' u (vQ (fe (eP N)) N.offs.length):=by
 have hform:=NetIn.form hN;obtain ⟨vc,vn,vo,vf,vl,vk⟩:=v;obtain ⟨⟨A1,c1,e1⟩,⟨A2,c2,e2⟩,⟨A3,c3,e3⟩,⟨A4,c4,e4⟩,⟨A5,c5,e5⟩,⟨A6,c6,e6⟩⟩:=id hform;dsimp only at e1 e2 e3 e4 e5 e6;subst e1 e2 e3 e4 e5 e6;have hL:=vT hc;have hn12:=hc.ln.2.1;refine gv (f:=30) ?_;refine ag ?_;refine aG rfl rfl rfl rfl ?_;rintro g1 w1 f1;refine ag ?_;have hB1:=f1.blk;have hN1:=aL hN f1.below;refine aF rfl (fun _ _ hv=>hB1.fld hv) ?_;refine aA rfl (wX (v:=⟨.slice A1 N.cals.length c1,.slice A2 N.names.length c2,.slice A3 N.ops.length c3,.slice A4 N.offs.length c4,.slice A5 N.lines.length c5,.slice A6 N.classes.length c6⟩) (ht.below f1.below) hN1) ?_;rintro y2 w2 ⟨d2,n,hR,hn,hiff⟩;obtain ⟨Y,yc,rfl⟩:=FRow.form hR;have b2:=f1.below.step d2;have hB2:=hB1.next d2;have hn0:n=0:=hiff.2 hc;subst hn0;refine ag ?_;refine ai rfl (fun hbad=> ?_) (fun hgood=> ?_)
 ·exact absurd hbad (by simp)
 obtain ⟨rel,hrel⟩: ∃r,r=fe (eP N):=⟨_,rfl⟩;have hok:=(lX hL).1;rw [<-hrel] at hok ⊢;have hlen:=pp hok.len;refine ag ?_;refine aF rfl (fun _ _ hv=>hB2.fld hv) ?_;refine aA rfl (vv (v:=⟨.slice A1 N.cals.length c1,.slice A2 N.names.length c2,.slice A3 N.ops.length c3,.slice A4 N.offs.length c4,.slice A5 N.lines.length c5,.slice A6 N.classes.length c6⟩) (aL hN1 d2) hL (zn hc)) ?_;rintro y3 w3 ⟨d3,rfl⟩;rw [<-hrel];refine aM rfl BX rfl (hlen ▸ is140.q) (by rw [hlen]; rfl) (sQ _) ?_;rintro g4 w4 f4;refine ag ?_;have hB4:=(hB2.next d3).next f4.below;have b4:=(b2.step d3).step f4.below;refine aj rfl (hB4.fld rfl) ?_;refine ag ?_;refine bI rfl rfl (dH Eb Og rfl) rfl rfl (by omega) (by omega) ?_;rintro g5 w5 f5;refine ag ?_;have hT4:=f4.blk.next f5.below;have hB5:=hB4.next f5.below;have b5:=b4.step f5.below;have hw05:=b4.size;have hat5:=f5.at_;have hD5:Tab w5 w4.heap.size (.slice (some ⟨g5,0,none⟩) N.offs.length N.offs.length) (List.replicate N.offs.length (.slice none 0 0,[])):=Tab.start f5.blk (by omega) (by omega);refine aJ [1,3,4,18] (fun x:Nat×List (Value×List Int)=> [(19,none,.int .i64 (x.1:Int))])
  (fun x W=>x.1<=N.offs.length/\Below w4.heap.size w4 W/\Tab W w4.heap.size (.slice (some ⟨g5,0,none⟩) N.offs.length N.offs.length) x.2/\Rows12 rel N.offs.length x.1 x.2) (fun x=>N.offs.length-x.1) (0,List.replicate N.offs.length (.slice none 0 0,[])) ⟨ZB,f5.below,hD5,⟨List.length_replicate,fun i hi=>by omega⟩⟩ ?_
 rintro ⟨a,rs⟩ W ⟨ha,hW,hD,hRs⟩;dsimp only at ha hD hRs;have hBW:=hB4.next hW;have hlrs:=hRs.len;have hbs:=hW.size;refine ag ?_;refine aI [1,3,4,18,19,20] rfl ?_;refine ai rfl (fun hlt=> ?_) (fun hge=> ?_)
 ·refine ag ?_;refine aj rfl (hBW.fld rfl) ?_;refine ag ?_;refine bI rfl rfl (dH lF EO rfl) rfl rfl (by omega) (by omega) ?_;rintro gr wr fr;refine ag ?_;have hDr:=hD.step fr.below;have hatr:=fr.at_;have hown:=hDr.own;rw [hlrs] at hown;refine eF rfl is32.q rfl rfl hown (by simp; omega) rfl ?_;rintro W1 o1 hbut1 hsz1;refine ag ?_;have hg5:=hD.own.lt (g:=g5) rfl;have hne:g5≠gr:=by omega
  have hr1:OwnS W1 3 1 (.slice (some ⟨gr,0,none⟩) N.offs.length N.offs.length) (mz rel N.offs.length a 0).length ((mz rel N.offs.length a 0).map (Value.int .i64)):=by
   rw [mM,Dl];have:=bu fr.blk (n:=N.offs.length) (sz:=1) (by simp) (by omega);rw [List.map_replicate];exact this.kept fun k hk=>hbut1.block k (this.lt hk) (fun e=>by cases hk; cases e; exact hne rfl)
  have hD1:Tab W1 w4.heap.size (.slice (some ⟨g5,0,none⟩) N.offs.length N.offs.length) (rs.set a (.slice (some ⟨gr,0,none⟩) N.offs.length N.offs.length,mz rel N.offs.length a 0)):=by
   refine hDr.put (by omega) rfl hbut1 (by rw [hlrs]; simpa using o1) hr1 (xS hok (by decide) hn12 (by omega)) (fun g hg=> ?_) (fun p hp g hg e=> ?_)
   ·cases hg;exact ⟨by show w4.heap.size<=gr; omega,fun e=>by cases e; exact hne rfl⟩
   ·cases e;have h9:gr<W.heap.size:=(hD.row p hp).1.lt hg;omega
  have hW1:Below w4.heap.size w4 W1:=(hW.step fr.below).grown hbut1 (hW.step fr.below).size (fun q hq=>by cases hq; omega);have hB1W:=hB4.next hW1;have hcel0:W1.cell? (Addr.add ⟨g5,0,none⟩ ((a:Int).toNat*1))=some (.slice (some ⟨gr,0,none⟩) N.offs.length N.offs.length):=by
   rw [Nat.mul_one,Int.toNat_natCast];have ho:=hD1.own;rw [List.length_set,hlrs] at ho;exact ho.cell1 (by rw [List.getElem?_map,List.getElem?_set_self (by omega)]; rfl)
  refine aj rfl hcel0 ?_;refine ag ?_;refine aI [1,3,4,5,18,19,33,34] rfl ?_;refine aJ [1,3,4,5,18,19,33] (fun j:Nat=> [(34,none,.int .i64 (j:Int))])
   (fun j W'=>j<=N.offs.length/\Below w4.heap.size w4 W'/\Tab W' w4.heap.size (.slice (some ⟨g5,0,none⟩) N.offs.length N.offs.length) (rs.set a (.slice (some ⟨gr,0,none⟩) N.offs.length N.offs.length,mz rel N.offs.length a j))) (fun j=>N.offs.length-j) 0 ⟨ZB,hW1,hD1⟩ ?_
  rintro j W2 ⟨hj,hW2,hD2⟩;refine ag ?_;refine ai rfl (fun hlt2=> ?_) (fun hge2=> ?_)
  ·have hri:(rs.set a (.slice (some ⟨gr,0,none⟩) N.offs.length N.offs.length,mz rel N.offs.length a j))[a]?=some (.slice (some ⟨gr,0,none⟩) N.offs.length N.offs.length,mz rel N.offs.length a j):=by
    rw [List.getElem?_set_self (by omega)]
   have hcel:W2.cell? (Addr.add ⟨g5,0,none⟩ ((a:Int).toNat*1))=some (.slice (some ⟨gr,0,none⟩) N.offs.length N.offs.length):=by
    rw [Nat.mul_one,Int.toNat_natCast];have ho:=hD2.own;rw [List.length_set,hlrs] at ho;exact ho.cell1 (by rw [List.getElem?_map,hri]; rfl)
   have hcelt:=ll (a:=a) (b:=j) (f4.blk.next hW2) hok.len (by omega) (by omega);refine ag ?_;refine dE mixed fun W3 hb3=> ?_;refine dL .weak 11 (by kernel_rfl) (by kernel_rfl) rfl rfl hb3 ?_;refine aZ ?_;refine aB rfl hcel ?_;refine bL aX rfl ⟨ct,trivial⟩ (fun _=>trivial) ?_;refine bL aX rfl ⟨ct,trivial⟩ (fun _=>trivial) ?_;refine bL aX rfl ⟨ct,trivial⟩ (fun _=>trivial) ?_;refine bL bH rfl ⟨ct,ct,trivial⟩ (fun _=>by (try dsimp only); omega) ?_;refine bL bH rfl ⟨ct,ct,trivial⟩ (fun _=>by (try dsimp only); omega) ?_;refine aB rfl hcelt ?_;refine aZ ?_;refine dD (iv [1,3,4,5,6,18,19,33,34,46,47] [(1,_,_),(3,_,_),(4,_,_),(5,_,_),(6,_,_),(18,_,_),(19,_,_),(33,_,_),(34,_,_),(46,_,_),(47,_,_)] rfl (fun W4 hb4=>ek ?_));refine bV (by kernel_rfl) (by kernel_rfl) rfl ?_;have hD4:=hD2.step hb4;obtain ⟨ho4,hI4,hob4⟩:=hD4.row _ (ZF hri);dsimp only at ho4 hI4 hob4;rw [mM] at ho4;refine eF rfl is3.q rfl rfl ho4 (by simp [mM]; omega) rfl ?_;rintro W5 o5 hbut5 hsz5;refine bG (aS [1,3,4,5,6,18,19,33,34] [(1,_,_),(3,_,_),(4,_,_),(5,_,_),(6,_,_),(18,_,_),(19,_,_),(33,_,_),(34,_,_)] rfl (dJ ?_))
   refine ed rfl (aS [1,3,4,5,6,18,19,33,34] [(1,_,_),(3,_,_),(4,_,_),(5,_,_),(6,_,_),(18,_,_),(19,_,_),(33,_,_),(34,_,_)] rfl (bP (aD ?_)));refine ag ?_;have hW4:=hW2.step hb4;have hD5:=hD4.set hri rfl hbut5 (r':=mz rel N.offs.length a (j+1)) (by
    rw [mM,<-Dm (by omega),List.map_set];have e:(j:Int).toNat*1=j:=by omega
    rw [e] at o5;exact o5) (xS hok (by decide) hn12 (by omega))
   rw [List.set_set] at hD5;refine aC (j+1) ⟨by omega,hW4.grown hbut5 hW4.size (fun q hq=>by cases hq; exact (hob4 _ rfl).1),hD5⟩
  ·have hje:j=N.offs.length:=by omega
   subst hje;rw [FQ] at hD2;refine ag ?_;refine aC (a+1,rs.set a (.slice (some ⟨gr,0,none⟩) N.offs.length N.offs.length,Ad rel N.offs.length a)) ⟨by show a+1<=N.offs.length; omega,hW2,hD2,hRs.next (by omega) _⟩
 ·have hae:a=N.offs.length:=by omega
  subst hae;have hsd:=hD.sd (by omega) (fun p hp=>by
   have:p.2∈rs.map (·.2):=List.mem_map_of_mem hp;rw [hRs.all] at this;obtain ⟨i,_,e⟩:=List.mem_map.1 this;rw [<-e];simp [Ad];omega)
  rw [hRs.all] at hsd;refine ag ?_;refine aW rfl ⟨b4.step hW,hsd⟩
theorem xZ {b:Nat}:Gives prog 261 #[.int .u8 (b:Int)] w (ZJ w (.bool (dec (jD b)))):=by
 refine gv (f:=261) ?_;refine ag ?_;refine aW rfl ⟨ZA,?_⟩;by_cases h:jD b
 ·rw [ay h];unfold jD at h;simp;omega
 ·rw [az h];unfold jD at h;simp;omega
theorem dY {v a b:Int}:Gives prog 104 #[.int .i64 v,.int .i64 a,.int .i64 b] w (ZJ w (.bool (decide (a<=v/\v<=b)))):=by
 refine gv (f:=104) ?_;refine ag ?_;refine aW rfl ⟨ZA,?_⟩;by_cases h1:a<=v<;>by_cases h2:v<=b<;>simp [h1,h2]
theorem CK (s:ByteArray) (k:Nat):(s.data.getD ((k:Nat):Int).toNat 0).toNat=dN s k:=by rw [Int.toNat_natCast]; rfl
theorem KH (s:ByteArray):(s.data.getD (Int.toNat 0) 0).toNat=dN s 0:=rfl
theorem vV (b:Nat):((decide ((b:Int)<65)||decide (90<(b:Int)))&& !dec (jD b))=true↔ ¬((65<=b/\b<=90)∨jD b):=by
 by_cases h:jD b
 ·rw [ay h];simp [h]
 ·rw [az h];simp [h];omega
theorem vD (b:Nat):((decide ((b:Int)<97)||decide (122<(b:Int)))&& !dec (jD b)&&decide ((b:Int)≠95))=true↔ ¬(ol b∨jD b∨b=95):=by
 by_cases h:jD b
 ·rw [ay h];simp [h]
 ·rw [az h];simp [h,ol];omega
theorem Js:Gives prog 275 #[.string s] w (ZJ w (.bool (dec (CodeOK s)))):=by
 refine gv (f:=275) ?_;refine ag ?_;refine au rfl (fun hbad=> ?_) (fun hgood=> ?_)
 ·refine ag ?_;refine aW rfl ⟨ZA,?_⟩;rw [az fun h=> ?_];have:=h.n1;have:=h.n2;simp at hbad;omega
 have hsz:1<=s.size/\s.size<=8:=by simp at hgood; omega
 refine ag ?_;refine aJ [0] (fun k:Nat=> [(3,none,.int .i64 (k:Int))])
  (fun k W=>k<=s.size/\Below w.heap.size w W/\ ∀i,i<k->(65<=dN s i/\dN s i<=90)∨jD (dN s i)) (fun k=>s.size-k) 0 ⟨ZB,ZA,fun i hi=>by omega⟩ ?_
 rintro k W ⟨hk,hB,hok⟩;refine ag ?_;refine ai rfl (fun hlt=> ?_) (fun hge=> ?_)
 ·have hks:k<s.size:=by omega
  refine ag ?_;refine aO (cap:= []) rfl rfl ie261.q rfl ct (aa rfl id ah) (fun _=>xZ (b:=dN s k)) ?_;rintro w2 c2;refine ag ?_;refine aI [0,3,34] rfl ?_;refine au rfl (fun hbad2=> ?_) (fun hgood2=> ?_)
  ·rw [CK,vV] at hbad2;refine ag ?_;refine aW rfl ⟨hB.step c2,?_⟩;rw [az fun h=>hbad2 (h.all k hks)]
  ·rw [CK] at hgood2;have hgd:(65<=dN s k/\dN s k<=90)∨jD (dN s k):=Classical.byContradiction fun h=>by
    rw [<-vV] at h;rw [h] at hgood2;cases hgood2
   refine ag ?_;refine aC (k+1) ⟨by omega,hB.step c2,fun i hi=> ?_⟩;rcases ZI i k with h|h
   ·exact hok i h
   ·have:i=k:=by omega
    subst this;exact hgd
 ·have hke:k=s.size:=by omega
  subst hke;refine ag ?_;refine aW rfl ⟨hB,by rw [ay ⟨hsz.1,hsz.2,hok⟩]⟩
theorem Jn:Gives prog 274 #[] w fun u w'=>Below w.heap.size w w'/\ ∃g,u= .slice (some ⟨g,0,none⟩) 17 17/\Blk w' g 9 (keys11.map Value.string):=by
 refine gv (f:=274) ?_;refine ag ?_;refine ak 9 (cs:=keys11.map Value.string) _ rfl rfl rfl uk (aa rfl ct (aa rfl ct (aa rfl ct (aa rfl ct (aa rfl ct (aa rfl ct (aa rfl ct (aa rfl ct (aa rfl ct (aa rfl ct (aa rfl ct (aa rfl ct (aa rfl ct (aa rfl ct (aa rfl ct (aa rfl ct (aa rfl ct ah))))))))))))))))) rfl rfl rfl rfl (by kernel_rfl) ?_;rintro g w1 f1;refine ag ?_;refine aW rfl ⟨f1.below,g,rfl,f1.blk⟩
theorem La:Gives prog 260 #[.string s] w (ZJ w (.bool (dec (s∈keys11)))):=by
 refine gv (f:=260) ?_;refine ag ?_;refine aA rfl (Jn) ?_;rintro y1 w1 ⟨b1,g,rfl,hB1⟩;refine ag ?_;have hkl:keys11.length=17:=rfl;refine aJ [0,3] (fun k:Nat=> [(4,none,.int .i64 (k:Int))])
  (fun k W=>k<=17/\Below w1.heap.size w1 W/\ ∀i x,i<k->keys11[i]?=some x->s≠x) (fun k=>17-k) 0 ⟨ZB,ZA,fun i x hi=>by omega⟩ ?_
 rintro k W ⟨hk,hB,hno⟩;refine ag ?_;refine aI [0,3,4,9] rfl ?_;refine ai rfl (fun hlt=> ?_) (fun hge=> ?_)
 ·obtain ⟨x,hx,hxm⟩:=bD (l:=keys11) (k:=k) (by omega);have hxv:W.cell? (Addr.add ⟨g,0,none⟩ ((k:Int).toNat*1))=some (.string x):=by
   rw [show (k:Int).toNat*1=k by omega];exact (hB1.next hB).fld (by rw [List.getElem?_map,hx]; rfl)
  refine ag ?_;refine aj rfl hxv ?_;refine ag ?_;rw [uu];refine au rfl (fun heq=> ?_) (fun hne=> ?_)
  ·refine ag ?_;refine aW rfl ⟨b1.step hB,?_⟩;rw [ay (p:=s∈keys11) (of_decide_eq_true heq ▸ hxm)]
  ·refine ag ?_;refine aC (k+1) ⟨by omega,hB,fun i z hi hz=> ?_⟩;rcases ZI i k with h|h
   ·exact hno i z h hz
   ·have:i=k:=by omega
    subst this;rw [hx] at hz;cases hz;exact fun e=>of_decide_eq_false hne e.symm
 ·refine ag ?_;have hnk:s ∉ keys11:=fun h=>by
   obtain ⟨i,hi⟩:=List.mem_iff_getElem?.1 h;exact hno i s (by have:=(ZE hi).1; omega) hi rfl
  refine aW rfl ⟨b1.step hB,by rw [az hnk]⟩
theorem Jl:Gives prog 248 #[.string s] w (ZJ w (.bool (dec (NameOK keys11 s)))):=by
 refine gv (f:=248) ?_;refine ag ?_;refine aO (cap:= []) rfl rfl ie260.q rfl ct (aa rfl id ah) (fun _=>La (s:=s)) ?_;rintro w1 c1;refine ag ?_;refine aI [0,2,25] rfl ?_;refine au rfl (fun hbad=> ?_) (fun hgood=> ?_)
 ·refine ag ?_;refine aW rfl ⟨c1,?_⟩;rw [az fun h=> ?_];have h1:=h.n1;have h2:=h.n2;have h3:=h.fst;have h4:=h.nokey;rw [KH] at hbad;unfold ol at h3;rw [az h4] at hbad;simp at hbad;omega
 have hsz:1<=s.size/\s.size<=16/\ol (dN s 0)/\s ∉ keys11:=by
  rw [KH] at hgood;unfold ol;simp only [Bool.or_eq_false_iff,decide_eq_false_iff_not] at hgood;exact ⟨by omega,by omega,by omega,fun h=>by rw [ay h] at hgood; cases hgood.2⟩
 refine ag ?_;refine aJ [0] (fun k:Nat=> [(3,none,.int .i64 (k:Int))])
  (fun k W=>k<=s.size/\Below w.heap.size w W/\ ∀i,i<k->ol (dN s i)∨jD (dN s i)∨dN s i=95) (fun k=>s.size-k) 0 ⟨ZB,c1,fun i hi=>by omega⟩ ?_
 rintro k W ⟨hk,hB,hok⟩;refine ag ?_;refine ai rfl (fun hlt=> ?_) (fun hge=> ?_)
 ·have hks:k<s.size:=by omega
  refine ag ?_;refine aO (cap:= []) rfl rfl ie261.q rfl ct (aa rfl id ah) (fun _=>xZ (b:=dN s k)) ?_;rintro w2 c2;refine ag ?_;refine aI [0,3,54] rfl ?_;refine au rfl (fun hbad2=> ?_) (fun hgood2=> ?_)
  ·rw [CK,vD] at hbad2;refine ag ?_;refine aW rfl ⟨hB.step c2,?_⟩;rw [az fun h=>hbad2 (h.all k hks)]
  ·rw [CK] at hgood2;have hgd:ol (dN s k)∨jD (dN s k)∨dN s k=95:=Classical.byContradiction fun h=>by
    rw [<-vD] at h;rw [h] at hgood2;cases hgood2
   refine ag ?_;refine aC (k+1) ⟨by omega,hB.step c2,fun i hi=> ?_⟩;rcases ZI i k with h|h
   ·exact hok i h
   ·have:i=k:=by omega
    subst this;exact hgd
 ·have hke:k=s.size:=by omega
  subst hke;refine ag ?_;refine aW rfl ⟨hB,by rw [ay ⟨hsz.1,hsz.2.1,hsz.2.2.1,hok,hsz.2.2.2⟩]⟩
theorem x9 {u v:Value} {c:Cal} {F:Nat->Prop} (h:CalIn F w u v c):Gives prog 262 #[.agg (Mr c u v).toArray] w fun x w'=>Below w.heap.size w w'/\x= .bool (dec (CalOK c)):=by
 obtain ⟨A,cap,rfl,_⟩:=h.wk.form;obtain ⟨B,bcap,rfl,_⟩:=h.hol.form;refine gv (f:=262) ?_;refine ag ?_;refine aG rfl rfl rfl rfl ?_;rintro g1 w1 f1;refine ag ?_;have hB:=f1.blk;have h1:=h.below f1.below;refine aj rfl (hB.fld rfl) ?_;refine ag ?_;refine aj rfl (hB.fld rfl) ?_;refine ag ?_;refine aj rfl (hB.fld rfl) ?_;refine ag ?_;refine aj rfl (hB.fld rfl) ?_;refine ag ?_;refine aI [0,1,2,23] rfl ?_;refine au rfl (fun hbad=> ?_) (fun hgood=> ?_)
 ·refine ag ?_;refine aW rfl ⟨f1.below,?_⟩;rw [az fun h=> ?_];have q1:=h.z1;have q2:=h.z2;have q3:=h.wk;have q4:=h.few;simp at hbad;omega
 have hg:(-720<=c.zone/\c.zone<=840)/\c.week.length=7/\c.hol.length<=40:=by simp at hgood; omega
 refine ag ?_;refine aJ [1] (fun k:Nat=> [(3,none,.int .i64 ((k:Int)+1))])
  (fun k W=>k<=c.hol.length/\Below w1.heap.size w1 W/\ ∀(i:Nat) (x y:Int),i<k->c.hol[i]?=some x->c.hol[i+1]?=some y->x<y) (fun k=>c.hol.length-k) 0 ⟨ZB,ZA,fun i x y hi=>by omega⟩ ?_
 rintro k W ⟨hk,hBW,hinc⟩;have hB2:=hB.next hBW;refine ag ?_;refine aj rfl (hB2.fld rfl) ?_;refine ag ?_;refine ai rfl (fun hlt=> ?_) (fun hge=> ?_)
 ·obtain ⟨x,hx,_⟩:=bD (l:=c.hol) (k:=k) (by omega);obtain ⟨y,hy,_⟩:=bD (l:=c.hol) (k:=k+1) (by omega);obtain ⟨ad,rfl⟩:=h.hol.addr (by omega);have hyc:W.cell? (ad.add (((k:Int)+1).toNat*1))=some (.int .i64 y):=by
   have:=(h1.hol.below hBW).getI hy;rw [show ((k+1:Nat):Int)=(k:Int)+1 by omega] at this;exact this
  have hxc:W.cell? (ad.add (((k:Int)+1-1).toNat*1))=some (.int .i64 x):=by
   have:=(h1.hol.below hBW).getI hx;rw [show ((k:Nat):Int)=(k:Int)+1-1 by omega] at this;exact this
  refine ag ?_;refine bg mixed (by kernel_rfl) ?_;refine aZ ?_;refine aB rfl (hB2.fld rfl) ?_;refine aZ ?_;refine aB rfl hxc ?_;refine aZ ?_;refine aB rfl (hB2.fld rfl) ?_;refine aZ ?_;refine aB rfl hyc ?_;refine aZ ?_;refine bR [1,3,42] rfl fun w3 b3=> ?_;refine aD ?_;refine ai rfl (fun hbad2=> ?_) (fun hgood2=> ?_)
  ·refine ag ?_;refine aW rfl ⟨(f1.below.step hBW).step b3,?_⟩;rw [az fun h=> ?_];have:=h.inc k x y hx hy;omega
  ·refine ag ?_;rw [show ((k:Int)+1+1)=((k+1:Nat):Int)+1 by omega];refine aC (k+1) ⟨by omega,hBW.step b3,fun i p q hi hp hq=> ?_⟩;rcases ZI i k with h|h
   ·exact hinc i p q h hp hq
   ·have:i=k:=by omega
    subst this;rw [hx] at hp;rw [hy] at hq;cases hp;cases hq;omega
 ·refine ag ?_;refine aW rfl ⟨f1.below.step hBW,?_⟩;rw [ay ⟨hg.1.1,hg.1.2,hg.2.1,hg.2.2,fun i x y hx hy=>hinc i x y (by have:=(ZE hy).1; omega) hx hy⟩]
theorem FJ {u v:Value} {c:Cal} {F:Nat->Prop} (h:CalIn F w u v c):Gives prog 90 #[.agg (Mr c u v).toArray] w fun x w'=>Below w.heap.size w w'/\x= .bool (decide (c.week.length<=20/\c.hol.length<=60)):=by
 obtain ⟨A,cap,rfl,_⟩:=h.wk.form;obtain ⟨B,bcap,rfl,_⟩:=h.hol.form;refine gv (f:=90) ?_;refine ag ?_;refine aG rfl rfl rfl rfl ?_;rintro g1 w1 f1;refine ag ?_;have hB:=f1.blk;refine aj rfl (hB.fld rfl) ?_;refine ag ?_;refine aj rfl (hB.fld rfl) ?_;refine ag ?_;refine aW rfl ⟨f1.below,?_⟩;by_cases h1:c.week.length<=20<;>by_cases h2:c.hol.length<=60<;>simp [h1,h2]<;>omega
end Go.Proofs.YtobaafdejnimkaaGreatDoor
namespace Go.Proofs.YtobaafdejnimkaaGreatDoor
open Tryz
open Go.PF Go.RowKit Go.Ord
variable {N:Net}
def dm (N:Net) (k:Nat):List ByteArray:=if k=1 then fT N else if k=2 then N.ops else if k=3 then N.offs.map (·.name) else if k=4 then N.lines.map (·.name) else N.classes.map (·.name)
def qJ (k:Nat):Nat:=if k=3 then 12 else if k=4 then 40 else if k=5 then 4 else 6
def Gz (N:Net) (k i:Nat):Prop:=if k=1 then∀x,N.cals[i]?=some x->CalOK x else if k=2 then True else if k=3 then∀x,N.offs[i]?=some x->OfOK N x else if k=4 then∀x,N.lines[i]?=some x->LiOK N x else∀x,N.classes[i]?=some x->ClaOK x
def Mf (N:Net) (k i:Nat):Prop:= ∀s,(dm N k)[i]?=some s->NameOK keys11 s/\s ∉ (dm N k).take i/\Gz N k i
def oH (N:Net) (k:Nat):Prop:=(dm N k).length<=qJ k/\ ∀j,j<min (dm N k).length (qJ k)->Mf N k j
theorem nS (N:Net):(fT N).length=N.cals.length:=by simp [fT]
theorem HV {α:Type} {k i:Nat} {nm:List ByteArray} {l:List α} {G:α->Prop} (hnm:dm N k=nm) (hl:nm.length=l.length) (hnum:Gz N k i↔ ∀x,l[i]?=some x->G x):Mf N k i↔GoodAt nm l G i:=by
 unfold Mf GoodAt;rw [hnm,hnum];constructor
 ·intro h x s hx hs;obtain ⟨h1,h2,h3⟩:=h s hs;exact ⟨h1,h2,h3 x hx⟩
 ·intro h s hs;have hil:=(ZE hs).1;obtain ⟨h1,h2,h3⟩:=h l[i] s (ZD (by omega)) hs;refine ⟨h1,h2,fun x hx=> ?_⟩;rw [ZD (by omega)] at hx;cases hx;exact h3
theorem mV {α:Type} {k:Nat} {nm:List ByteArray} {l:List α} {G:α->Prop} (hnm:dm N k=nm) (hl:nm.length=l.length) (hnum: ∀i,Gz N k i↔ ∀x,l[i]?=some x->G x):oH N k↔KindOK keys11 (qJ k) nm l G:=by
 rw [lz hl];unfold oH;rw [hnm,hl];constructor
 ·rintro ⟨h1,h2⟩;exact ⟨h1,fun j hj=>(HV hnm hl (hnum j)).1 (h2 j hj)⟩
 ·rintro ⟨h1,h2⟩;exact ⟨h1,fun j hj=>(HV hnm hl (hnum j)).2 (h2 j hj)⟩
theorem Ic:ConsOK keys11 N↔N.names.length=N.cals.length/\ ∀k,1<=k->k<=5->oH N k:=by
 have k1:oH N 1↔KindOK keys11 6 (fT N) N.cals CalOK:=mV rfl (nS N) fun i=>Iff.rfl;have k2:oH N 2↔KindOK keys11 6 N.ops N.ops (fun _=>True):=mV rfl rfl fun i=>⟨fun _ _ _=>trivial,fun _=>trivial⟩;have k3:oH N 3↔KindOK keys11 12 (N.offs.map (·.name)) N.offs (OfOK N):=mV rfl (List.length_map _) fun i=>Iff.rfl;have k4:oH N 4↔KindOK keys11 40 (N.lines.map (·.name)) N.lines (LiOK N):=mV rfl (List.length_map _) fun i=>Iff.rfl;have k5:oH N 5↔KindOK keys11 4 (N.classes.map (·.name)) N.classes ClaOK:=mV rfl (List.length_map _) fun i=>Iff.rfl;constructor
 ·intro h;refine ⟨h.len,fun k h1 h5=> ?_⟩;have:k=1∨k=2∨k=3∨k=4∨k=5:=by omega
  rcases this with rfl|rfl|rfl|rfl|rfl
  ·rw [k1,pZ h.len]; exact h.cals
  ·exact k2.2 h.ops
  ·exact k3.2 h.offs
  ·exact k4.2 h.lines
  ·exact k5.2 h.classes
 ·rintro ⟨h1,h2⟩;have q1:=k1.1 (h2 1 (by omega) (by omega));rw [pZ h1] at q1;exact ⟨h1,q1,k2.1 (h2 2 (by omega) (by omega)),k3.1 (h2 3 (by omega) (by omega)),k4.1 (h2 4 (by omega) (by omega)),k5.1 (h2 5 (by omega) (by omega))⟩
structure FewN (N:Net):Prop where
 c:N.cals.length<=100
 n:N.names.length<=100
 o:N.ops.length<=100
 f:N.offs.length<=100
 l:N.lines.length<=100
 k:N.classes.length<=100
theorem FewN.names (h:FewN N) (k:Nat):(dm N k).length<=100:=by
 have h1:=h.c;have h2:=h.o;have h3:=h.f;have h4:=h.l;have h5:=h.k;have:=nS N;unfold dm
 split
 ·omega
 split
 ·omega
 split
 ·rw [List.length_map]; omega
 split<;>rw [List.length_map]<;>omega
end Go.Proofs.YtobaafdejnimkaaGreatDoor
namespace Go.Proofs.YtobaafdejnimkaaGreatDoor
open Tryz
open Go.PF Go.RowKit Go.Ord
attribute [local irreducible] TW CW KW DW
variable {w:World} {v:NV} {N:Net} {i k b:Nat} {x:_}
structure StrRow (W:World) (b:Nat) (v:Value) (l:List ByteArray):Prop where
 own:OwnS W 9 1 v l.length (l.map Value.string)
 lb: ∀g,v.ownBlock=some g->b<=g
theorem StrRow.below {W W':World} {b:Nat} {v:Value} {l:List ByteArray} (h:StrRow W b v l) (hb:Below W.heap.size W W'):StrRow W' b v l:=⟨h.own.below hb,h.lb⟩
theorem StrRow.form {W:World} {b:Nat} {v:Value} {l:List ByteArray} (h:StrRow W b v l): ∃A c,v= .slice A l.length c:=by
 obtain ⟨A,c,h1,_⟩:=h.own.form;exact ⟨A,c,h1⟩
theorem StrRow.at {W:World} {A:Option Addr} {c:Nat} {l:List ByteArray} {s:ByteArray} (h:StrRow W b (.slice A l.length c) l) (hs:l[i]?=some s): ∃g,A=some ⟨g,0,none⟩/\W.cell? (Addr.add ⟨g,0,none⟩ ((i:Int).toNat*1))=some (.string s):=by
 have hil:=(ZE hs).1;obtain ⟨g,rfl⟩:=h.own.addr (by simp; omega);refine ⟨g,rfl,?_⟩;rw [Nat.mul_one,Int.toNat_natCast];exact h.own.cell1 (by rw [List.getElem?_map,hs]; rfl)
theorem StrRow.app {W W1 W':World} {v v':Value} {l:List ByteArray} {s:ByteArray} (h:StrRow W b v l) (hO:OwnS W' 9 1 v' (l.length+1) (l.map Value.string++ [.string s])) (hn:v'.ownBlock=v.ownBlock∨v'.ownBlock=some W1.heap.size) (hb:b<=W1.heap.size):StrRow W' b v' (l++ [s]):=by
 refine ⟨?_,pN hn h.lb hb⟩;rw [List.length_append,List.map_append];exact hO
theorem GM (hN:dI w v N) (hf:FewN N):Gives prog 91 #[.agg v.cells.toArray,.int .i64 1] w fun u w'=>Below w.heap.size w w'/\StrRow w' w.heap.size u (fT N):=by
 have hform:=NetIn.form hN;obtain ⟨vc,vn,vo,vf,vl,vk⟩:=v;obtain ⟨⟨A1,c1,e1⟩,⟨A2,c2,e2⟩,⟨A3,c3,e3⟩,⟨A4,c4,e4⟩,⟨A5,c5,e5⟩,⟨A6,c6,e6⟩⟩:=id hform;dsimp only at e1 e2 e3 e4 e5 e6;subst e1 e2 e3 e4 e5 e6;have qc:=hf.c;refine gv (f:=91) ?_;refine ag ?_;refine aG rfl rfl rfl rfl ?_;rintro g1 w1 f1;refine ag ?_;have hB1:=f1.blk;have hN1:=aL hN f1.below;have hb01:=f1.below.size;refine ai rfl (fun h1=> ?_) (fun n1=> ?_)
 ·refine ag ?_;refine aJ [2] (fun x:Nat×Value=> [(5,none,x.2),(6,none,.int .i64 (x.1:Int))])
   (fun x W=>x.1<=N.cals.length/\Below w1.heap.size w1 W/\StrRow W w1.heap.size x.2 ((fT N).take x.1)) (fun x=>N.cals.length-x.1) (0,.slice none 0 0) ⟨ZB,ZA,⟨OwnS.nil _ _ _,fun g hg=>by simp [Value.ownBlock] at hg⟩⟩ ?_
  rintro ⟨i,lv⟩ W ⟨hi,hB,hR⟩;dsimp only at hi hR;have hlen:(fT N).length=N.cals.length:=nS N;have hti:((fT N).take i).length=i:=by rw [List.length_take]; omega
  have hBW:=hB1.next hB;have hbW:=hB.size;obtain ⟨VA,vcap,rfl⟩:=hR.form;refine ag ?_;refine aj rfl (hBW.fld rfl) ?_;refine ag ?_;refine ai rfl (fun hlt=> ?_) (fun hge=> ?_)
  ·have hcel: ∀x,N.names[i]?=some x-> ∃ad,A2=some ad/\W.cell? (ad.add ((i:Int).toNat*1))=some (.string x):=fun x hx=>by
    have hnW:=hN1.n.below hB;obtain ⟨ad,rfl⟩:=hnW.addr (by have:=(ZE hx).1; omega);exact ⟨ad,rfl,hnW.getT hx⟩
   refine ag ?_;refine aj rfl (hBW.fld rfl) ?_;refine ag ?_;refine aI [2,5,6,25] rfl ?_;refine ai rfl (fun hin=> ?_) (fun hout=> ?_)
   ·obtain ⟨x,hx,_⟩:=bD (l:=N.names) (k:=i) (by omega);have hnm:(fT N)[i]?=some x:=by
     unfold fT;rw [List.getElem?_map,List.getElem?_range (by omega)];simp [List.getD_eq_getElem?_getD,hx]
    obtain ⟨ad,rfl,hxc⟩:=hcel x hx;refine ag ?_;refine aj rfl (hBW.fld rfl) ?_;refine ag ?_;refine aj rfl hxc ?_;refine ak 9 _ rfl rfl rfl uk (aa rfl ct ah) rfl rfl rfl rfl rfl ?_;rintro g5 w5 f5;have hR5:=hR.below f5.below;have hb5:=f5.below.size;refine aK [.string x] rfl rfl Bi rfl hR5.own rfl rfl (fun j u hj=>⟨_,rfl,f5.blk.fld hj⟩) (fun u hu=>by simp at hu; subst hu; rfl) (by omega) (by omega) ?_;rintro lv' w6 o6 g6 n6;refine ag ?_;have hW5:=hB.step f5.below;have hR6:StrRow w6 w1.heap.size lv' ((fT N).take (i+1)):=by
     rw [ZG,hnm];exact hR5.app o6 n6 (by omega)
    refine aC (i+1,lv') ⟨by show i+1<=N.cals.length; omega,hW5.grown g6 hW5.size (fun q hq=>hR.lb q hq),hR6⟩
   ·have hnm:(fT N)[i]?=some ⟨#[]⟩:=by
     unfold fT;rw [List.getElem?_map,List.getElem?_range (by omega)];simp [List.getD_eq_getElem?_getD,List.getElem?_eq_none (show N.names.length<=i by omega)]
    refine ag ?_;refine ak 9 _ rfl rfl rfl uk (aa rfl ct ah) rfl rfl rfl rfl rfl ?_;rintro g5 w5 f5;have hR5:=hR.below f5.below;have hb5:=f5.below.size;refine aK [.string ⟨#[]⟩] rfl rfl Bi rfl hR5.own rfl rfl (fun j u hj=>⟨_,rfl,f5.blk.fld hj⟩) (fun u hu=>by simp at hu; subst hu; rfl) (by omega) (by omega) ?_;rintro lv' w6 o6 g6 n6;refine ag ?_;have hW5:=hB.step f5.below;have hR6:StrRow w6 w1.heap.size lv' ((fT N).take (i+1)):=by
     rw [ZG,hnm];exact hR5.app o6 n6 (by omega)
    refine aC (i+1,lv') ⟨by show i+1<=N.cals.length; omega,hW5.grown g6 hW5.size (fun q hq=>hR.lb q hq),hR6⟩
  ·have ht:(fT N).take i=fT N:=List.take_of_length_le (by omega);have hR':StrRow W w.heap.size (.slice VA ((fT N).take i).length vcap) (fT N):=⟨by
    have h9:=hR.own;rw [ht] at h9 ⊢;exact h9,fun g hg=>Nat.le_trans hb01 (hR.lb g hg)⟩
   refine ag ?_;refine aW rfl ⟨f1.below.step hB,hR'⟩
 ·exact absurd (by decide) n1
theorem GL (hN:dI w v N) (hf:FewN N):Gives prog 91 #[.agg v.cells.toArray,.int .i64 2] w fun u w'=>Below w.heap.size w w'/\StrRow w' w.heap.size u (N.ops):=by
 have hform:=NetIn.form hN;obtain ⟨vc,vn,vo,vf,vl,vk⟩:=v;obtain ⟨⟨A1,c1,e1⟩,⟨A2,c2,e2⟩,⟨A3,c3,e3⟩,⟨A4,c4,e4⟩,⟨A5,c5,e5⟩,⟨A6,c6,e6⟩⟩:=id hform;dsimp only at e1 e2 e3 e4 e5 e6;subst e1 e2 e3 e4 e5 e6;have qo:=hf.o;refine gv (f:=91) ?_;refine ag ?_;refine aG rfl rfl rfl rfl ?_;rintro g1 w1 f1;refine ag ?_;have hB1:=f1.blk;have hN1:=aL hN f1.below;have hb01:=f1.below.size;refine ai rfl (fun h1=> ?_) (fun n1=> ?_)
 ·exact absurd h1 (by decide)
 refine ag ?_;refine aI [0,1,2,4,5,11,37] rfl ?_;refine ai rfl (fun h2=> ?_) (fun n2=> ?_)
 ·refine ag ?_;refine aJ [2] (fun x:Nat×Value=> [(5,none,x.2),(7,none,.int .i64 (x.1:Int))])
   (fun x W=>x.1<=N.ops.length/\Below w1.heap.size w1 W/\StrRow W w1.heap.size x.2 ((N.ops).take x.1)) (fun x=>N.ops.length-x.1) (0,.slice none 0 0) ⟨ZB,ZA,⟨OwnS.nil _ _ _,fun g hg=>by simp [Value.ownBlock] at hg⟩⟩ ?_
  rintro ⟨i,lv⟩ W ⟨hi,hB,hR⟩;dsimp only at hi hR;have hlen:(N.ops).length=N.ops.length:=rfl;have hti:((N.ops).take i).length=i:=by rw [List.length_take]; omega
  have hBW:=hB1.next hB;have hbW:=hB.size;obtain ⟨VA,vcap,rfl⟩:=hR.form;refine ag ?_;refine aj rfl (hBW.fld rfl) ?_;refine ag ?_;refine ai rfl (fun hlt=> ?_) (fun hge=> ?_)
  ·obtain ⟨x,hx,_⟩:=bD (l:=N.ops) (k:=i) (by omega);have hnW:=hN1.o.below hB;obtain ⟨ad,rfl⟩:=hnW.addr (by omega);obtain ⟨ad',cs,e9,hF9,hrep9,hc9⟩:=hnW.at hx;cases e9;obtain ⟨rfl,_⟩:=hrep9;have hnm:(N.ops)[i]?=some x:=by exact hx
   refine ag ?_;refine aj rfl (hBW.fld rfl) ?_;refine ag ?_;refine aj rfl (hc9 0 _ rfl) ?_;refine ak 9 _ rfl rfl rfl uk (aa rfl ct ah) rfl rfl rfl rfl rfl ?_;rintro g5 w5 f5;have hR5:=hR.below f5.below;have hb5:=f5.below.size;refine aK [.string x] rfl rfl Bi rfl hR5.own rfl rfl (fun j u hj=>⟨_,rfl,f5.blk.fld hj⟩) (fun u hu=>by simp at hu; subst hu; rfl) (by omega) (by omega) ?_;rintro lv' w6 o6 g6 n6;refine ag ?_;have hW5:=hB.step f5.below;have hR6:StrRow w6 w1.heap.size lv' ((N.ops).take (i+1)):=by
    rw [ZG,hnm];exact hR5.app o6 n6 (by omega)
   refine aC (i+1,lv') ⟨by show i+1<=N.ops.length; omega,hW5.grown g6 hW5.size (fun q hq=>hR.lb q hq),hR6⟩
  ·have ht:(N.ops).take i=N.ops:=List.take_of_length_le (by omega);have hR':StrRow W w.heap.size (.slice VA ((N.ops).take i).length vcap) (N.ops):=⟨by
    have h9:=hR.own;rw [ht] at h9 ⊢;exact h9,fun g hg=>Nat.le_trans hb01 (hR.lb g hg)⟩
   refine ag ?_;refine aW rfl ⟨f1.below.step hB,hR'⟩
 ·exact absurd (by decide) n2
theorem GK (hN:dI w v N) (hf:FewN N):Gives prog 91 #[.agg v.cells.toArray,.int .i64 3] w fun u w'=>Below w.heap.size w w'/\StrRow w' w.heap.size u (N.offs.map (·.name)):=by
 have hform:=NetIn.form hN;obtain ⟨vc,vn,vo,vf,vl,vk⟩:=v;obtain ⟨⟨A1,c1,e1⟩,⟨A2,c2,e2⟩,⟨A3,c3,e3⟩,⟨A4,c4,e4⟩,⟨A5,c5,e5⟩,⟨A6,c6,e6⟩⟩:=id hform;dsimp only at e1 e2 e3 e4 e5 e6;subst e1 e2 e3 e4 e5 e6;have qf:=hf.f;refine gv (f:=91) ?_;refine ag ?_;refine aG rfl rfl rfl rfl ?_;rintro g1 w1 f1;refine ag ?_;have hB1:=f1.blk;have hN1:=aL hN f1.below;have hb01:=f1.below.size;refine ai rfl (fun h1=> ?_) (fun n1=> ?_)
 ·exact absurd h1 (by decide)
 refine ag ?_;refine ai rfl (fun h2=> ?_) (fun n2=> ?_)
 ·exact absurd h2 (by decide)
 refine ag ?_;refine ai rfl (fun h3=> ?_) (fun n3=> ?_)
 ·refine ag ?_;refine aJ [2] (fun x:Nat×Value=> [(5,none,x.2),(8,none,.int .i64 (x.1:Int))])
   (fun x W=>x.1<=N.offs.length/\Below w1.heap.size w1 W/\StrRow W w1.heap.size x.2 ((N.offs.map (·.name)).take x.1)) (fun x=>N.offs.length-x.1) (0,.slice none 0 0) ⟨ZB,ZA,⟨OwnS.nil _ _ _,fun g hg=>by simp [Value.ownBlock] at hg⟩⟩ ?_
  rintro ⟨i,lv⟩ W ⟨hi,hB,hR⟩;dsimp only at hi hR;have hlen:(N.offs.map (·.name)).length=N.offs.length:=List.length_map _;have hti:((N.offs.map (·.name)).take i).length=i:=by rw [List.length_take]; omega
  have hBW:=hB1.next hB;have hbW:=hB.size;obtain ⟨VA,vcap,rfl⟩:=hR.form;refine ag ?_;refine aj rfl (hBW.fld rfl) ?_;refine ag ?_;refine aI [2,5,8,61] rfl ?_;refine ai rfl (fun hlt=> ?_) (fun hge=> ?_)
  ·obtain ⟨x,hx,_⟩:=bD (l:=N.offs) (k:=i) (by omega);have hnW:=hN1.f.below hB;obtain ⟨ad,rfl⟩:=hnW.addr (by omega);obtain ⟨ad',cs,e9,hF9,hrep9,hc9⟩:=hnW.at hx;cases e9;obtain ⟨uv,rfl,_⟩:=hrep9;have hnm:(N.offs.map (·.name))[i]?=some x.name:=by rw [List.getElem?_map,hx]; rfl
   refine ag ?_;refine aj rfl (hBW.fld rfl) ?_;refine ag ?_;refine aj rfl (hc9 0 _ rfl) ?_;refine ak 9 _ rfl rfl rfl uk (aa rfl ct ah) rfl rfl rfl rfl rfl ?_;rintro g5 w5 f5;have hR5:=hR.below f5.below;have hb5:=f5.below.size;refine aK [.string x.name] rfl rfl Bi rfl hR5.own rfl rfl (fun j u hj=>⟨_,rfl,f5.blk.fld hj⟩) (fun u hu=>by simp at hu; subst hu; rfl) (by omega) (by omega) ?_;rintro lv' w6 o6 g6 n6;refine ag ?_;have hW5:=hB.step f5.below;have hR6:StrRow w6 w1.heap.size lv' ((N.offs.map (·.name)).take (i+1)):=by
    rw [ZG,hnm];exact hR5.app o6 n6 (by omega)
   refine aC (i+1,lv') ⟨by show i+1<=N.offs.length; omega,hW5.grown g6 hW5.size (fun q hq=>hR.lb q hq),hR6⟩
  ·have ht:(N.offs.map (·.name)).take i=N.offs.map (·.name):=List.take_of_length_le (by omega);have hR':StrRow W w.heap.size (.slice VA ((N.offs.map (·.name)).take i).length vcap) (N.offs.map (·.name)):=⟨by
    have h9:=hR.own;rw [ht] at h9 ⊢;exact h9,fun g hg=>Nat.le_trans hb01 (hR.lb g hg)⟩
   refine ag ?_;refine aW rfl ⟨f1.below.step hB,hR'⟩
 ·exact absurd (by decide) n3
theorem GJ (hN:dI w v N) (hf:FewN N):Gives prog 91 #[.agg v.cells.toArray,.int .i64 4] w fun u w'=>Below w.heap.size w w'/\StrRow w' w.heap.size u (N.lines.map (·.name)):=by
 have hform:=NetIn.form hN;obtain ⟨vc,vn,vo,vf,vl,vk⟩:=v;obtain ⟨⟨A1,c1,e1⟩,⟨A2,c2,e2⟩,⟨A3,c3,e3⟩,⟨A4,c4,e4⟩,⟨A5,c5,e5⟩,⟨A6,c6,e6⟩⟩:=id hform;dsimp only at e1 e2 e3 e4 e5 e6;subst e1 e2 e3 e4 e5 e6;have ql:=hf.l;refine gv (f:=91) ?_;refine ag ?_;refine aG rfl rfl rfl rfl ?_;rintro g1 w1 f1;refine ag ?_;have hB1:=f1.blk;have hN1:=aL hN f1.below;have hb01:=f1.below.size;refine ai rfl (fun h1=> ?_) (fun n1=> ?_)
 ·exact absurd h1 (by decide)
 refine ag ?_;refine ai rfl (fun h2=> ?_) (fun n2=> ?_)
 ·exact absurd h2 (by decide)
 refine ag ?_;refine ai rfl (fun h3=> ?_) (fun n3=> ?_)
 ·exact absurd h3 (by decide)
 refine ag ?_;refine ai rfl (fun h4=> ?_) (fun n4=> ?_)
 ·refine ag ?_;refine aJ [2] (fun x:Nat×Value=> [(5,none,x.2),(9,none,.int .i64 (x.1:Int))])
   (fun x W=>x.1<=N.lines.length/\Below w1.heap.size w1 W/\StrRow W w1.heap.size x.2 ((N.lines.map (·.name)).take x.1)) (fun x=>N.lines.length-x.1) (0,.slice none 0 0) ⟨ZB,ZA,⟨OwnS.nil _ _ _,fun g hg=>by simp [Value.ownBlock] at hg⟩⟩ ?_
  rintro ⟨i,lv⟩ W ⟨hi,hB,hR⟩;dsimp only at hi hR;have hlen:(N.lines.map (·.name)).length=N.lines.length:=List.length_map _;have hti:((N.lines.map (·.name)).take i).length=i:=by rw [List.length_take]; omega
  have hBW:=hB1.next hB;have hbW:=hB.size;obtain ⟨VA,vcap,rfl⟩:=hR.form;refine ag ?_;refine aj rfl (hBW.fld rfl) ?_;refine ag ?_;refine aI [2,5,9,79] rfl ?_;refine ai rfl (fun hlt=> ?_) (fun hge=> ?_)
  ·obtain ⟨x,hx,_⟩:=bD (l:=N.lines) (k:=i) (by omega);have hnW:=hN1.l.below hB;obtain ⟨ad,rfl⟩:=hnW.addr (by omega);obtain ⟨ad',cs,e9,hF9,hrep9,hc9⟩:=hnW.at hx;cases e9;obtain ⟨rfl,_⟩:=hrep9;have hnm:(N.lines.map (·.name))[i]?=some x.name:=by rw [List.getElem?_map,hx]; rfl
   refine ag ?_;refine aj rfl (hBW.fld rfl) ?_;refine ag ?_;refine aj rfl (hc9 0 _ rfl) ?_;refine ak 9 _ rfl rfl rfl uk (aa rfl ct ah) rfl rfl rfl rfl rfl ?_;rintro g5 w5 f5;have hR5:=hR.below f5.below;have hb5:=f5.below.size;refine aK [.string x.name] rfl rfl Bi rfl hR5.own rfl rfl (fun j u hj=>⟨_,rfl,f5.blk.fld hj⟩) (fun u hu=>by simp at hu; subst hu; rfl) (by omega) (by omega) ?_;rintro lv' w6 o6 g6 n6;refine ag ?_;have hW5:=hB.step f5.below;have hR6:StrRow w6 w1.heap.size lv' ((N.lines.map (·.name)).take (i+1)):=by
    rw [ZG,hnm];exact hR5.app o6 n6 (by omega)
   refine aC (i+1,lv') ⟨by show i+1<=N.lines.length; omega,hW5.grown g6 hW5.size (fun q hq=>hR.lb q hq),hR6⟩
  ·have ht:(N.lines.map (·.name)).take i=N.lines.map (·.name):=List.take_of_length_le (by omega);have hR':StrRow W w.heap.size (.slice VA ((N.lines.map (·.name)).take i).length vcap) (N.lines.map (·.name)):=⟨by
    have h9:=hR.own;rw [ht] at h9 ⊢;exact h9,fun g hg=>Nat.le_trans hb01 (hR.lb g hg)⟩
   refine ag ?_;refine aW rfl ⟨f1.below.step hB,hR'⟩
 ·exact absurd (by decide) n4
theorem GI (hN:dI w v N) (hf:FewN N):Gives prog 91 #[.agg v.cells.toArray,.int .i64 5] w fun u w'=>Below w.heap.size w w'/\StrRow w' w.heap.size u (N.classes.map (·.name)):=by
 have hform:=NetIn.form hN;obtain ⟨vc,vn,vo,vf,vl,vk⟩:=v;obtain ⟨⟨A1,c1,e1⟩,⟨A2,c2,e2⟩,⟨A3,c3,e3⟩,⟨A4,c4,e4⟩,⟨A5,c5,e5⟩,⟨A6,c6,e6⟩⟩:=id hform;dsimp only at e1 e2 e3 e4 e5 e6;subst e1 e2 e3 e4 e5 e6;have qk:=hf.k;refine gv (f:=91) ?_;refine ag ?_;refine aG rfl rfl rfl rfl ?_;rintro g1 w1 f1;refine ag ?_;have hB1:=f1.blk;have hN1:=aL hN f1.below;have hb01:=f1.below.size;refine ai rfl (fun h1=> ?_) (fun n1=> ?_)
 ·exact absurd h1 (by decide)
 refine ag ?_;refine ai rfl (fun h2=> ?_) (fun n2=> ?_)
 ·exact absurd h2 (by decide)
 refine ag ?_;refine ai rfl (fun h3=> ?_) (fun n3=> ?_)
 ·exact absurd h3 (by decide)
 refine ag ?_;refine ai rfl (fun h4=> ?_) (fun n4=> ?_)
 ·exact absurd h4 (by decide)
 refine ag ?_;refine aI [0,1,2,4,5,11,91] rfl ?_;refine ai rfl (fun h5=> ?_) (fun n5=> ?_)
 ·refine ag ?_;refine aJ [2] (fun x:Nat×Value=> [(5,none,x.2),(10,none,.int .i64 (x.1:Int))])
   (fun x W=>x.1<=N.classes.length/\Below w1.heap.size w1 W/\StrRow W w1.heap.size x.2 ((N.classes.map (·.name)).take x.1)) (fun x=>N.classes.length-x.1) (0,.slice none 0 0) ⟨ZB,ZA,⟨OwnS.nil _ _ _,fun g hg=>by simp [Value.ownBlock] at hg⟩⟩ ?_
  rintro ⟨i,lv⟩ W ⟨hi,hB,hR⟩;dsimp only at hi hR;have hlen:(N.classes.map (·.name)).length=N.classes.length:=List.length_map _;have hti:((N.classes.map (·.name)).take i).length=i:=by rw [List.length_take]; omega
  have hBW:=hB1.next hB;have hbW:=hB.size;obtain ⟨VA,vcap,rfl⟩:=hR.form;refine ag ?_;refine aj rfl (hBW.fld rfl) ?_;refine ag ?_;refine ai rfl (fun hlt=> ?_) (fun hge=> ?_)
  ·obtain ⟨x,hx,_⟩:=bD (l:=N.classes) (k:=i) (by omega);have hnW:=hN1.k.below hB;obtain ⟨ad,rfl⟩:=hnW.addr (by omega);obtain ⟨ad',cs,e9,hF9,hrep9,hc9⟩:=hnW.at hx;cases e9;obtain ⟨rfl,_⟩:=hrep9;have hnm:(N.classes.map (·.name))[i]?=some x.name:=by rw [List.getElem?_map,hx]; rfl
   refine ag ?_;refine aj rfl (hBW.fld rfl) ?_;refine ag ?_;refine aj rfl (hc9 0 _ rfl) ?_;refine ak 9 _ rfl rfl rfl uk (aa rfl ct ah) rfl rfl rfl rfl rfl ?_;rintro g5 w5 f5;have hR5:=hR.below f5.below;have hb5:=f5.below.size;refine aK [.string x.name] rfl rfl Bi rfl hR5.own rfl rfl (fun j u hj=>⟨_,rfl,f5.blk.fld hj⟩) (fun u hu=>by simp at hu; subst hu; rfl) (by omega) (by omega) ?_;rintro lv' w6 o6 g6 n6;refine ag ?_;have hW5:=hB.step f5.below;have hR6:StrRow w6 w1.heap.size lv' ((N.classes.map (·.name)).take (i+1)):=by
    rw [ZG,hnm];exact hR5.app o6 n6 (by omega)
   refine aC (i+1,lv') ⟨by show i+1<=N.classes.length; omega,hW5.grown g6 hW5.size (fun q hq=>hR.lb q hq),hR6⟩
  ·have ht:(N.classes.map (·.name)).take i=N.classes.map (·.name):=List.take_of_length_le (by omega);have hR':StrRow W w.heap.size (.slice VA ((N.classes.map (·.name)).take i).length vcap) (N.classes.map (·.name)):=⟨by
    have h9:=hR.own;rw [ht] at h9 ⊢;exact h9,fun g hg=>Nat.le_trans hb01 (hR.lb g hg)⟩
   refine ag ?_;refine aW rfl ⟨f1.below.step hB,hR'⟩
 ·exact absurd (by decide) n5
theorem wV:Gives prog 226 #[.int .i64 (k:Int)] w (ZJ w (.int .i64 (qJ k:Int))):=by
 refine gv (f:=226) ?_;refine ag ?_;refine ai rfl (fun h3=> ?_) (fun n3=> ?_)
 ·refine ag ?_;have:k=3:=by omega
  subst this;refine aW rfl ⟨ZA,rfl⟩
 refine ag ?_;refine ai rfl (fun h4=> ?_) (fun n4=> ?_)
 ·refine ag ?_;have:k=4:=by omega
  subst this;refine aW rfl ⟨ZA,rfl⟩
 refine ag ?_;refine ai rfl (fun h5=> ?_) (fun n5=> ?_)
 ·refine ag ?_;have:k=5:=by omega
  subst this;refine aW rfl ⟨ZA,rfl⟩
 refine ag ?_;have e:qJ k=6:=by
  unfold qJ;rw [if_neg (by omega),if_neg (by omega),if_neg (by omega)]
 rw [e];refine aW rfl ⟨ZA,rfl⟩
theorem Dn {ov:Value} {o:Of} {F:Nat->Prop} (hN:NVform v N) (hf:FewN N) (h:OfIn F w ov o):Gives prog 263 #[.agg v.cells.toArray,.agg (NW o ov).toArray] w fun x w'=>Below w.heap.size w w'/\x= .bool (dec (OfOK N o)):=by
 obtain ⟨A,cap,rfl,_⟩:=h.cd.form;obtain ⟨vc,vn,vo,vf,vl,vk⟩:=v;obtain ⟨⟨A1,c1,e1⟩,_,⟨A3,c3,e3⟩,_,_,_⟩:=hN;dsimp only at e1 e3;subst e1 e3;have qc:=hf.c;have qo:=hf.o;refine gv (f:=263) ?_;refine ag ?_;refine aG rfl rfl rfl rfl ?_;rintro g1 w1 f1;refine aG rfl rfl rfl rfl ?_;rintro g2 w2 f2;refine ag ?_;have hB1:=f1.blk.next f2.below;have hB2:=f2.blk;have b2:=f1.below.step f2.below;have hcd:=h.cd.below b2;have hcl:=h.cd.len.2.2;refine aJ [2,3] (fun k:Nat=> [(5,none,.int .i64 (k:Int))])
  (fun k W=>k<=o.codes.length/\Below w2.heap.size w2 W/\ ∀c∈o.codes.take k,CodeOK c) (fun k=>o.codes.length-k) 0 ⟨ZB,ZA,fun c hc=>by simp at hc⟩ ?_
 rintro k W ⟨hk,hBW,hok⟩;have hcW:=hcd.below hBW;have hB1W:=hB1.next hBW;have hB2W:=hB2.next hBW;refine ag ?_;refine aj rfl (hB2W.fld rfl) ?_;refine ag ?_;refine aI [2,3,5,11] rfl ?_;refine ai rfl (fun hlt=> ?_) (fun hge=> ?_)
 ·obtain ⟨c,hc,hcm⟩:=bD (l:=o.codes) (k:=k) (by omega);obtain ⟨ad,rfl⟩:=hcW.addr (by omega);refine ag ?_;refine aj rfl (hB2W.fld rfl) ?_;refine ag ?_;refine aj rfl (hcW.getT hc) ?_;refine aA rfl (Js) ?_;rintro y5 w5 ⟨d5,rfl⟩;refine ag ?_;refine au rfl (fun hb1=> ?_) (fun hb2=> ?_)
  ·refine ag ?_;refine aW rfl ⟨(b2.step hBW).step d5,?_⟩;rw [az fun h=> ?_];rw [ay (h.codes c hcm)] at hb1;simp at hb1
  ·refine ag ?_;refine aC (k+1) ⟨by omega,hBW.step d5,fun z hz=> ?_⟩;rw [ZG,hc] at hz;rcases ZH hz with hz|hz
   ·exact hok z hz
   ·simp at hz;subst hz;exact dec_iff.1 (by simpa using hb2)
 ·rw [List.take_of_length_le (by omega)] at hok;refine ag ?_;refine aj rfl (hB2W.fld rfl) ?_;refine ag ?_;refine aj rfl (hB2W.fld rfl) ?_;refine ag ?_;refine aj rfl (hB1W.fld rfl) ?_;refine ag ?_;refine aO (cap:= []) rfl rfl ie104.q rfl ct (aa rfl id (aa rfl ct (aa rfl id ah))) (fun _=>dY) ?_;rintro w5 d5;refine ag ?_;have hB15:=hB1W.next d5;have hB25:=hB2W.next d5;refine aj rfl (hB25.fld rfl) ?_;refine ag ?_;refine aj rfl (hB15.fld rfl) ?_;refine ag ?_;refine aO (cap:= []) rfl rfl ie104.q rfl ct (aa rfl id (aa rfl ct (aa rfl id ah))) (fun _=>dY) ?_;rintro w6 d6;refine ag ?_;have hB26:=hB25.next d6;refine aj rfl (hB26.fld rfl) ?_;refine aO (cap:= []) rfl rfl ie104.q rfl ct (aa rfl id (aa rfl ct (aa rfl ct ah))) (fun _=>dY) ?_;rintro w7 d7;refine ag ?_;have hB27:=hB26.next d7;refine aj rfl (hB27.fld rfl) ?_;refine aO (cap:= []) rfl rfl ie104.q rfl ct (aa rfl id (aa rfl ct (aa rfl ct ah))) (fun _=>dY) ?_;rintro w8 d8;refine ag ?_;have hB28:=hB27.next d8;refine aj rfl (hB28.fld rfl) ?_;refine aO (cap:= []) rfl rfl ie104.q rfl ct (aa rfl id (aa rfl ct (aa rfl ct ah))) (fun _=>dY) ?_;rintro w9 d9;refine ag ?_;refine aW rfl ⟨(((((b2.step hBW).step d5).step d6).step d7).step d8).step d9,?_⟩
  by_cases hq:OfOK N o
  ·rw [ay hq];have q1:=hq.p1;have q2:=hq.p2;have q3:=hq.q1;have q4:=hq.q2;have q5:=hq.m1;have q6:=hq.m2;have q7:=hq.o1;have q8:=hq.o2;have q9:=hq.c1;have qa:=hq.c2;have qb:=hq.few;simp [q1,q2,q3,q4,q5,q6,q7,q9];omega
  ·rw [az hq];have: ¬((((((o.codes.length:Int)<=20/\0<=o.op/\o.op<=(N.ops.length:Int)-1)/\0<=o.cal/\o.cal<=(N.cals.length:Int)-1)/\2<=o.pock/\o.pock<=64)/\1<=o.pass/\o.pass<=4)/\1<=o.mins/\o.mins<=240):=fun ⟨⟨⟨⟨⟨h1,h2,h3⟩,h4,h5⟩,h6,h7⟩,h8,h9⟩,ha,hb⟩=>hq ⟨h2,by omega,h4,by omega,by omega,hok,h6,h7,h8,h9,ha,hb⟩
   congr 1
   simp only [Bool.and_eq_false_iff,decide_eq_false_iff_not];omega
theorem Jm {l:Li} (hN:NVform v N) (hf:FewN N):Gives prog 264 #[.agg v.cells.toArray,.agg (Cv l).toArray] w fun x w'=>Below w.heap.size w w'/\x= .bool (dec (LiOK N l)):=by
 obtain ⟨vc,vn,vo,vf,vl,vk⟩:=v;obtain ⟨_,_,_,⟨A4,c4,e4⟩,_,_⟩:=hN;dsimp only at e4;subst e4;have qf:=hf.f;refine gv (f:=264) ?_;refine ag ?_;refine aG rfl rfl rfl rfl ?_;rintro g1 w1 f1;refine aG rfl rfl rfl rfl ?_;rintro g2 w2 f2;refine ag ?_;have hB1:=f1.blk.next f2.below;have hB2:=f2.blk;have b2:=f1.below.step f2.below;refine aj rfl (hB1.fld rfl) ?_;refine ag ?_;refine aj rfl (hB2.fld rfl) ?_;refine ag ?_;refine aA rfl (dY) ?_;rintro y3 w3 ⟨d3,rfl⟩;have hB23:=hB2.next d3;refine ag ?_;refine aj rfl (hB23.fld rfl) ?_;refine ag ?_;refine aO (cap:= []) rfl rfl ie104.q rfl ct (aa rfl id (aa rfl ct (aa rfl id ah))) (fun _=>dY) ?_;rintro w4 d4;refine ag ?_;have hB24:=hB23.next d4;have b4:=(b2.step d3).step d4;refine aj rfl (hB24.fld rfl) ?_;refine ag ?_;refine aj rfl (hB24.fld rfl) ?_;refine ag ?_;refine aj rfl (hB24.fld rfl) ?_;refine aO (cap:= []) rfl rfl ie104.q rfl ct (aa rfl id (aa rfl ct (aa rfl ct ah))) (fun _=>dY) ?_;rintro w5 d5;refine ag ?_;have hB25:=hB24.next d5;refine aj rfl (hB25.fld rfl) ?_;refine aO (cap:= []) rfl rfl ie104.q rfl ct (aa rfl id (aa rfl ct (aa rfl ct ah))) (fun _=>dY) ?_;rintro w6 d6;refine ag ?_;have hB26:=hB25.next d6;refine aj rfl (hB26.fld rfl) ?_
 refine aO (cap:= []) rfl rfl ie104.q rfl ct (aa rfl id (aa rfl ct (aa rfl ct ah))) (fun _=>dY) ?_;rintro w7 d7;refine ag ?_;refine aW rfl ⟨((b4.step d5).step d6).step d7,?_⟩;by_cases hq:LiOK N l
 ·rw [ay hq];have q1:=hq.a1;have q2:=hq.a2;have q3:=hq.r1;have q4:=hq.r2;have q5:=hq.d1;have q6:=hq.d2;have q7:=hq.f1;have q8:=hq.f2;have q9:=hq.t1;have qa:=hq.t2;have qb:=hq.ne;simp [q1,q2,q3,q4,q5,q6,q7,q9,qb];omega
 ·rw [az hq];have: ¬((((((0<=l.frm/\l.frm<=(N.offs.length:Int)-1)/\0<=l.to/\l.to<=(N.offs.length:Int)-1)/\l.frm≠l.to)/\0<=l.at_/\l.at_<=1439)/\1<=l.trav/\l.trav<=5000)/\1<=l.load/\l.load<=40):=fun ⟨⟨⟨⟨⟨⟨h1,h2⟩,h3,h4⟩,h5⟩,h6,h7⟩,h8,h9⟩,ha,hb⟩=>hq ⟨h1,by omega,h3,by omega,h5,h6,h7,h8,h9,ha,hb⟩
  congr 1
  simp only [Bool.and_eq_false_iff,decide_eq_false_iff_not];omega
theorem Az (hN:dI w v N) (hf:FewN N) (hx:N.cals[i]?=some x):Gives prog 249 #[.agg v.cells.toArray,.int .i64 1,.int .i64 (i:Int)] w (ZJ w (.bool (dec (CalOK x)))):=by
 have hform:=NetIn.form hN;obtain ⟨vc,vn,vo,vf,vl,vk⟩:=v;obtain ⟨⟨A1,c1,e1⟩,⟨A2,c2,e2⟩,⟨A3,c3,e3⟩,⟨A4,c4,e4⟩,⟨A5,c5,e5⟩,⟨A6,c6,e6⟩⟩:=id hform;dsimp only at e1 e2 e3 e4 e5 e6;subst e1 e2 e3 e4 e5 e6;have hil:=(ZE hx).1;refine gv (f:=249) ?_;refine ag ?_;refine aG rfl rfl rfl rfl ?_;rintro g1 w1 f1;refine ag ?_;have hB1:=f1.blk;have hN1:=aL hN f1.below;refine ai rfl (fun h1=> ?_) (fun n1=> ?_)
 ·have hnW:=hN1.c;obtain ⟨ad,rfl⟩:=hnW.addr (by omega);obtain ⟨ad',cs,e9,hF9,hrep9,hc9⟩:=hnW.at hx;cases e9;obtain ⟨u1,u2,rfl,q1,q2,q3⟩:=hrep9;refine ag ?_;refine aj rfl (hB1.fld rfl) ?_;refine ag ?_;refine aF rfl (hc9) ?_;refine aA rfl (x9 (u:=u1) (v:=u2) ⟨q1,q2,q3⟩) ?_;rintro y5 w5 ⟨d5,rfl⟩;refine ag ?_;refine aW rfl ⟨f1.below.step d5,rfl⟩
 ·exact absurd (by decide) n1
theorem Ay (hN:dI w v N) (hf:FewN N) (hx:N.ops[i]?=some x):Gives prog 249 #[.agg v.cells.toArray,.int .i64 2,.int .i64 (i:Int)] w (ZJ w (.bool (dec (True)))):=by
 have hform:=NetIn.form hN;obtain ⟨vc,vn,vo,vf,vl,vk⟩:=v;obtain ⟨⟨A1,c1,e1⟩,⟨A2,c2,e2⟩,⟨A3,c3,e3⟩,⟨A4,c4,e4⟩,⟨A5,c5,e5⟩,⟨A6,c6,e6⟩⟩:=id hform;dsimp only at e1 e2 e3 e4 e5 e6;subst e1 e2 e3 e4 e5 e6;have hil:=(ZE hx).1;refine gv (f:=249) ?_;refine ag ?_;refine aG rfl rfl rfl rfl ?_;rintro g1 w1 f1;refine ag ?_;have hB1:=f1.blk;have hN1:=aL hN f1.below;refine ai rfl (fun h1=> ?_) (fun n1=> ?_)
 ·exact absurd h1 (by decide)
 refine ag ?_;refine aI [0,1,2,3,6,7,16] rfl ?_;refine ai rfl (fun h3=> ?_) (fun n3=> ?_)
 ·exact absurd h3 (by decide)
 refine ag ?_;refine ai rfl (fun h4=> ?_) (fun n4=> ?_)
 ·exact absurd h4 (by decide)
 refine ag ?_;refine ai rfl (fun h5=> ?_) (fun n5=> ?_)
 ·exact absurd h5 (by decide)
 refine ag ?_;refine aW rfl ⟨f1.below,by rw [ay trivial]⟩
theorem Aw (hN:dI w v N) (hf:FewN N) (hx:N.offs[i]?=some x):Gives prog 249 #[.agg v.cells.toArray,.int .i64 3,.int .i64 (i:Int)] w (ZJ w (.bool (dec (OfOK N x)))):=by
 have hform:=NetIn.form hN;obtain ⟨vc,vn,vo,vf,vl,vk⟩:=v;obtain ⟨⟨A1,c1,e1⟩,⟨A2,c2,e2⟩,⟨A3,c3,e3⟩,⟨A4,c4,e4⟩,⟨A5,c5,e5⟩,⟨A6,c6,e6⟩⟩:=id hform;dsimp only at e1 e2 e3 e4 e5 e6;subst e1 e2 e3 e4 e5 e6;have hil:=(ZE hx).1;refine gv (f:=249) ?_;refine ag ?_;refine aG rfl rfl rfl rfl ?_;rintro g1 w1 f1;refine ag ?_;have hB1:=f1.blk;have hN1:=aL hN f1.below;refine ai rfl (fun h1=> ?_) (fun n1=> ?_)
 ·exact absurd h1 (by decide)
 refine ag ?_;refine aI [0,1,2,3,6,7,16] rfl ?_;refine ai rfl (fun h3=> ?_) (fun n3=> ?_)
 ·have hnW:=hN1.f;obtain ⟨ad,rfl⟩:=hnW.addr (by omega);obtain ⟨ad',cs,e9,hF9,hrep9,hc9⟩:=hnW.at hx;cases e9;obtain ⟨u1,rfl,q1,q2,q3,q4,q5,q6,q7⟩:=hrep9;have h9:OfIn _ w1 u1 x:=⟨q1,q2,q3,q4,q5,q6,q7⟩;refine cO ?_;refine bg mixed (by kernel_rfl) ?_;refine dx rfl (fun _ _ hv=>hB1.fld hv) ?_;refine aZ ?_;refine aB rfl (hB1.fld rfl) ?_;refine aZ ?_;refine dx rfl (hc9) ?_;refine fE (.ex (.bool (dec (OfOK N x)))) trivial rfl (fun _ w' hb'=>(Dn hform hf (h9.below hb')).mono fun u w'' ⟨p1,p2⟩=>⟨p1,p2⟩) ?_;refine aZ ?_;refine bR [0,1,2,3,6,7] rfl fun w7 b7=> ?_;refine ag ?_;refine aW rfl ⟨f1.below.step b7,rfl⟩
 ·exact absurd (by decide) n3
theorem Au (hN:dI w v N) (hf:FewN N) (hx:N.lines[i]?=some x):Gives prog 249 #[.agg v.cells.toArray,.int .i64 4,.int .i64 (i:Int)] w (ZJ w (.bool (dec (LiOK N x)))):=by
 have hform:=NetIn.form hN;obtain ⟨vc,vn,vo,vf,vl,vk⟩:=v;obtain ⟨⟨A1,c1,e1⟩,⟨A2,c2,e2⟩,⟨A3,c3,e3⟩,⟨A4,c4,e4⟩,⟨A5,c5,e5⟩,⟨A6,c6,e6⟩⟩:=id hform;dsimp only at e1 e2 e3 e4 e5 e6;subst e1 e2 e3 e4 e5 e6;have hil:=(ZE hx).1;refine gv (f:=249) ?_;refine ag ?_;refine aG rfl rfl rfl rfl ?_;rintro g1 w1 f1;refine ag ?_;refine aI [0,1,2,3,6,7,8] rfl ?_;have hB1:=f1.blk;have hN1:=aL hN f1.below;refine ai rfl (fun h1=> ?_) (fun n1=> ?_)
 ·exact absurd h1 (by decide)
 refine ag ?_;refine ai rfl (fun h3=> ?_) (fun n3=> ?_)
 ·exact absurd h3 (by decide)
 refine ag ?_;refine ai rfl (fun h4=> ?_) (fun n4=> ?_)
 ·have hnW:=hN1.l;obtain ⟨ad,rfl⟩:=hnW.addr (by omega);obtain ⟨ad',cs,e9,hF9,hrep9,hc9⟩:=hnW.at hx;cases e9;obtain ⟨rfl,q1⟩:=hrep9;refine cO ?_;refine bg mixed (by kernel_rfl) ?_;refine dx rfl (fun _ _ hv=>hB1.fld hv) ?_;refine aZ ?_;refine aB rfl (hB1.fld rfl) ?_;refine aZ ?_;refine dx rfl (hc9) ?_;refine fE (.ex (.bool (dec (LiOK N x)))) trivial rfl (fun _ w' hb'=>(Jm hform hf).mono fun u w'' ⟨p1,p2⟩=>⟨p1,p2⟩) ?_;refine aZ ?_;refine bR [0,1,2,3,6,7] rfl fun w7 b7=> ?_;refine ag ?_;refine aW rfl ⟨f1.below.step b7,rfl⟩
 ·exact absurd (by decide) n4
theorem As (hN:dI w v N) (hf:FewN N) (hx:N.classes[i]?=some x):Gives prog 249 #[.agg v.cells.toArray,.int .i64 5,.int .i64 (i:Int)] w (ZJ w (.bool (dec (ClaOK x)))):=by
 have hform:=NetIn.form hN;obtain ⟨vc,vn,vo,vf,vl,vk⟩:=v;obtain ⟨⟨A1,c1,e1⟩,⟨A2,c2,e2⟩,⟨A3,c3,e3⟩,⟨A4,c4,e4⟩,⟨A5,c5,e5⟩,⟨A6,c6,e6⟩⟩:=id hform;dsimp only at e1 e2 e3 e4 e5 e6;subst e1 e2 e3 e4 e5 e6;have hil:=(ZE hx).1;refine gv (f:=249) ?_;refine ag ?_;refine aG rfl rfl rfl rfl ?_;rintro g1 w1 f1;refine ag ?_;refine aI [0,1,2,3,6,7,8] rfl ?_;have hB1:=f1.blk;have hN1:=aL hN f1.below;refine ai rfl (fun h1=> ?_) (fun n1=> ?_)
 ·exact absurd h1 (by decide)
 refine ag ?_;refine ai rfl (fun h3=> ?_) (fun n3=> ?_)
 ·exact absurd h3 (by decide)
 refine ag ?_;refine ai rfl (fun h4=> ?_) (fun n4=> ?_)
 ·exact absurd h4 (by decide)
 refine ag ?_;refine ai rfl (fun h5=> ?_) (fun n5=> ?_)
 ·have hnW:=hN1.k;obtain ⟨ad,rfl⟩:=hnW.addr (by omega);obtain ⟨ad',cs,e9,hF9,hrep9,hc9⟩:=hnW.at hx;cases e9;obtain ⟨rfl,q1⟩:=hrep9;refine ag ?_;refine aj rfl (hB1.fld rfl) ?_;refine ag ?_;refine aj rfl (hc9 1 _ rfl) ?_;refine aA rfl (dY) ?_;rintro y5 w5 ⟨d5,rfl⟩;have hB5:=hB1.next d5;have hc95:w5.cell? (Addr.add (Addr.add ad ((i:Int).toNat*3)) 2)=some (.int .i64 x.del):=by
   have h9:=hc9 2 _ rfl;exact (d5.cell (block_lt_of_cell h9)).trans h9
  refine ag ?_;refine aj rfl (hB5.fld rfl) ?_;refine ag ?_;refine aj rfl hc95 ?_;refine aO (cap:= []) rfl rfl ie104.q rfl ct (aa rfl id (aa rfl ct (aa rfl ct ah))) (fun _=>dY) ?_;rintro w6 d6;refine ag ?_;refine aW rfl ⟨(f1.below.step d5).step d6,?_⟩;by_cases hq:ClaOK x
  ·rw [ay hq];simp [hq.c1,hq.c2,hq.d1,hq.d2]
  ·rw [az hq];have: ¬((0<=x.cut/\x.cut<=1439)/\0<=x.del/\x.del<=1439):=fun h=>hq ⟨h.1.1,h.1.2,h.2.1,h.2.2⟩
   congr 1
   simp only [Bool.and_eq_false_iff,decide_eq_false_iff_not];omega
 ·exact absurd (by decide) n5
theorem DO (hN:dI w v N) (hf:FewN N) (h1:1<=k) (h5:k<=5) (hi:i<(dm N k).length):Gives prog 249 #[.agg v.cells.toArray,.int .i64 (k:Int),.int .i64 (i:Int)] w (ZJ w (.bool (dec (Gz N k i)))):=by
 have one: ∀ {α:Type} {l:List α} {x:α} {p:α->Prop},l[i]?=some x->(p x↔ ∀y,l[i]?=some y->p y):=fun {α l x p} hx=>⟨fun h y hy=>by rw [hx] at hy; cases hy; exact h,fun h=>h _ hx⟩;have:k=1∨k=2∨k=3∨k=4∨k=5:=by omega
 rcases this with rfl|rfl|rfl|rfl|rfl
 ·obtain ⟨x,hx,_⟩:=bD (l:=N.cals) (k:=i) (by have:(dm N 1).length=N.cals.length:=nS N; omega);exact (Az hN hf hx).mono fun u w' ⟨p1,p2⟩=>⟨p1,by rw [p2]; exact congrArg _ (fJ (one hx))⟩
 ·obtain ⟨x,hx,_⟩:=bD (l:=N.ops) (k:=i) hi;exact (Ay hN hf hx).mono fun u w' ⟨p1,p2⟩=>⟨p1,p2⟩
 ·obtain ⟨x,hx,_⟩:=bD (l:=N.offs) (k:=i) (by have:(dm N 3).length=N.offs.length:=List.length_map _; omega);exact (Aw hN hf hx).mono fun u w' ⟨p1,p2⟩=>⟨p1,by rw [p2]; exact congrArg _ (fJ (one hx))⟩
 ·obtain ⟨x,hx,_⟩:=bD (l:=N.lines) (k:=i) (by have:(dm N 4).length=N.lines.length:=List.length_map _; omega);exact (Au hN hf hx).mono fun u w' ⟨p1,p2⟩=>⟨p1,by rw [p2]; exact congrArg _ (fJ (one hx))⟩
 ·obtain ⟨x,hx,_⟩:=bD (l:=N.classes) (k:=i) (by have:(dm N 5).length=N.classes.length:=List.length_map _; omega);exact (As hN hf hx).mono fun u w' ⟨p1,p2⟩=>⟨p1,by rw [p2]; exact congrArg _ (fJ (one hx))⟩
theorem Ct (hN:dI w v N) (hf:FewN N) (h1:1<=k) (h5:k<=5):Gives prog 91 #[.agg v.cells.toArray,.int .i64 (k:Int)] w fun u w'=>Below w.heap.size w w'/\StrRow w' w.heap.size u (dm N k):=by
 have:k=1∨k=2∨k=3∨k=4∨k=5:=by omega
 rcases this with rfl|rfl|rfl|rfl|rfl
 ·exact GM hN hf
 ·exact GL hN hf
 ·exact GK hN hf
 ·exact GJ hN hf
 ·exact GI hN hf
theorem JV {lv:Value} (hN:dI w v N) (hf:FewN N) (h1:1<=k) (h5:k<=5) (hR:StrRow w b lv (dm N k)) (hi:i<(dm N k).length):Gives prog 227 #[.agg v.cells.toArray,.int .i64 (k:Int),lv,.int .i64 (i:Int)] w fun u w'=>Below w.heap.size w w'/\ ∃e:Int,u= .int .i64 e/\(e=0↔Mf N k i):=by
 have hform:=NetIn.form hN;obtain ⟨vc,vn,vo,vf,vl,vk⟩:=v;obtain ⟨⟨A1,c1,e1⟩,⟨A2,c2,e2⟩,⟨A3,c3,e3⟩,⟨A4,c4,e4⟩,⟨A5,c5,e5⟩,⟨A6,c6,e6⟩⟩:=id hform;dsimp only at e1 e2 e3 e4 e5 e6;subst e1 e2 e3 e4 e5 e6;obtain ⟨A,cap,rfl⟩:=hR.form;have hnl:=hf.names k;obtain ⟨s,hs,hsm⟩:=bD (l:=dm N k) (k:=i) hi;have heok:Mf N k i↔NameOK keys11 s/\s ∉ (dm N k).take i/\Gz N k i:=⟨fun h=>h s hs,fun h z hz=>by rw [hs] at hz; cases hz; exact h⟩;obtain ⟨g,rfl,_⟩:=hR.at hs;refine gv (f:=227) ?_;refine ag ?_;refine aG rfl rfl rfl rfl ?_;rintro g1 w1 f1;refine ag ?_;have hB1:=f1.blk;have hN1:=aL hN f1.below;have hR1:=hR.below f1.below;obtain ⟨g',e',hsc1⟩:=hR1.at hs;cases e';refine aj rfl hsc1 ?_;refine aA rfl (Jl (s:=s)) ?_;rintro y2 w2 ⟨b2,rfl⟩;have b02:=f1.below.step b2;refine ag ?_;refine au rfl (fun hbad=> ?_) (fun hgood=> ?_)
 ·refine ag ?_;refine aW rfl ⟨b02,1,rfl,⟨fun h=>by omega,fun h=> ?_⟩⟩;rw [ay (heok.1 h).1] at hbad;simp at hbad
 have hnm:NameOK keys11 s:=dec_iff.1 (by simpa using hgood);refine ag ?_;refine aJ [1,2,3,4] (fun j:Nat=> [(10,none,.int .i64 (j:Int))])
  (fun j W=>j<=i/\Below w2.heap.size w2 W/\s ∉ (dm N k).take j) (fun j=>i-j) 0 ⟨ZB,ZA,by simp⟩ ?_
 rintro j W ⟨hj,hW,hno⟩;have hRW:=(hR1.below b2).below hW;have hBW:=(hB1.next b2).next hW;have hNW:=aL (aL hN1 b2) hW;refine ag ?_;refine ai rfl (fun hlt=> ?_) (fun hge=> ?_)
 ·obtain ⟨z,hz,hzm⟩:=bD (l:=dm N k) (k:=j) (by omega);obtain ⟨g',e',hzc⟩:=hRW.at hz;cases e';obtain ⟨g',e',hsc⟩:=hRW.at hs;cases e';refine ag ?_;refine bg mixed (by kernel_rfl) ?_;refine aZ ?_;refine aB rfl hzc ?_;refine aZ ?_;refine aB rfl hsc ?_;refine aZ ?_;rw [uu];refine bR [1,2,3,4,10,32] rfl fun w3 b3=> ?_;refine aD ?_;refine au rfl (fun heq=> ?_) (fun hne=> ?_)
  ·refine ag ?_;refine aW rfl ⟨(b02.step hW).step b3,4,rfl,⟨fun h=>by omega,fun h=> ?_⟩⟩;have hzs:z=s:=of_decide_eq_true heq;subst hzs;exact absurd (ZF (i:=j) (by rw [List.getElem?_take_of_lt (by omega)]; exact hz)) (heok.1 h).2.1
  ·refine ag ?_;refine aC (j+1) ⟨by omega,hW.step b3,fun h=> ?_⟩;rw [ZG,hz] at h;rcases ZH h with h|h
   ·exact hno h
   ·simp at h;subst h;exact of_decide_eq_false hne rfl
 ·have hji:j=i:=by omega
  subst hji;refine ag ?_;refine aF rfl (fun _ _ hv=>hBW.fld hv) ?_;refine ag ?_;refine aA rfl (DO (v:=⟨.slice A1 N.cals.length c1,.slice A2 N.names.length c2,.slice A3 N.ops.length c3,.slice A4 N.offs.length c4,.slice A5 N.lines.length c5,.slice A6 N.classes.length c6⟩) hNW hf h1 h5 hi) ?_;rintro y4 w4 ⟨d4,rfl⟩;refine ag ?_;refine au rfl (fun hbad2=> ?_) (fun hgood2=> ?_)
  ·refine ag ?_;refine aW rfl ⟨(b02.step hW).step d4,1,rfl,⟨fun h=>by omega,fun h=> ?_⟩⟩;rw [ay (heok.1 h).2.2] at hbad2;simp at hbad2
  ·refine ag ?_;refine aW rfl ⟨(b02.step hW).step d4,0,rfl,⟨fun _=>heok.2 ⟨hnm,hno,dec_iff.1 (by simpa using hgood2)⟩,fun _=>rfl⟩⟩
end Go.Proofs.YtobaafdejnimkaaGreatDoor
