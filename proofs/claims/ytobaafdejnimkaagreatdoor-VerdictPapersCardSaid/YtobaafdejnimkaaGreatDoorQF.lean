/- Texts of this claim,joined. -/
import Derived.Test.YtobaafdejnimkaaGreatDoorQE
set_option linter.unusedSimpArgs false
set_option linter.unusedVariables false
set_option maxRecDepth 100000
set_option maxHeartbeats 4000000
namespace Go.Proofs.YtobaafdejnimkaaGreatDoor
open Go.PF Go.RowKit Go.Ord
attribute [local irreducible] TW CW KW DW
variable {w:World} {v:Value} {d:Dist}
abbrev SD (w:World) (v:Value) (d:Dist):Prop:=SL (sliceT intT) (fun k=>k<w.heap.size) w v d
theorem sd_step {w':World} (h:SD w v d) (hb:Below w.heap.size w w'):SD w' v d:=h.step (sliceT_now intT_now) hb
theorem distances_c (hd:SD w v d):Gives Tryz.prog 151 #[v] w fun u w'=>Below w.heap.size w w'∧u= .bool (dec (WfD d)):=by
 obtain ⟨A,cap,rfl,hcap⟩:=hd.form
 have hmax:d.length≤9223372036854775807:=hd.len.2.2
 refine gv (f:=151) ?_
 refine rnT ?_
 refine CW.condP rfl (fun hbig=> ?_) (fun hsmall=> ?_)
 ·refine rnT ?_
  refine rt1 rfl ⟨Below.refl _ _,by rw [dec_neg (fun h=>by have:=h.few; omega)]⟩
 have h12:d.length≤12:=by omega
 refine rnT ?_
 refine CW.lp [0,16,17] (fun k:Nat=> [(18,none,.int .i64 (k:Int))])
  (fun k W=>k≤d.length∧W=w∧ ∀(i:Nat) (r:List Int),i<k→d[i]?=some r→RowOK d i r) (fun k=>d.length-k) 0 ⟨by omega,rfl,fun i r hi=>by omega⟩ ?_
 rintro k W ⟨hk,rfl,hrows⟩
 refine rnT ?_
 refine CW.condP rfl (fun hlt=> ?_) (fun hge=> ?_)
 ·have hkl:k<d.length:=by omega
  obtain ⟨r,hr⟩: ∃r,d[k]?=some r:=⟨d[k],List.getElem?_eq_getElem hkl⟩
  obtain ⟨ad,rfl⟩:=hd.addr (by omega)
  obtain ⟨rv,hcell,hrow⟩:=hd.row hr
  obtain ⟨B,rcap,rfl,_⟩:=hrow.form
  by_cases hlen:r.length=d.length
  ·obtain ⟨bd,rfl⟩:=hrow.addr (by omega)
   obtain ⟨x,hx⟩: ∃x,r[k]?=some x:=⟨r[k]'(by omega),List.getElem?_eq_getElem (by omega)⟩
   refine rnT ?_
   refine TW.ld rfl hcell ?_
   refine rnT ?_
   refine TW.ld rfl (hrow.getI hx) ?_
   refine rnT ?_
   refine CW.pk [0,3,4,16,17,18,34] rfl ?_
   refine CW.cond rfl (fun hbad=> ?_) (fun hgood=> ?_)
   ·refine rnT ?_
    refine rt1 rfl ⟨Below.refl _ _,?_⟩
    rw [dec_neg]
    intro h
    have:=(h.rowOK hr).diag
    rw [hx] at this
    simp [hlen] at hbad
    exact hbad (by simpa using this)
   have hx0:x=0:=by simpa [hlen] using hgood
   refine rnT ?_
   refine CW.lp [0,16,17,18,35,36] (fun j:Nat=> [(37,none,.int .i64 (j:Int))])
    (fun j W'=>j≤r.length∧W'=W∧ ∀(i:Nat) (y:Int),i<j→r[i]?=some y→ -1≤y∧y≤1000000) (fun j=>r.length-j) 0 ⟨by omega,rfl,fun i y hi=>by omega⟩ ?_
   rintro j W' ⟨hj,rfl,hrng⟩
   refine rnT ?_
   refine CW.condP rfl (fun hlt2=> ?_) (fun hge2=> ?_)
   ·have hjl:j<r.length:=by omega
    obtain ⟨y,hy⟩: ∃y,r[j]?=some y:=⟨r[j],List.getElem?_eq_getElem hjl⟩
    refine rnT ?_
    refine TW.ld rfl (hrow.getI hy) ?_
    refine rnT ?_
    refine CW.pk [0,6,16,17,18,35,36,37,46] rfl ?_
    refine CW.cond rfl (fun hbad2=> ?_) (fun hgood2=> ?_)
    ·refine rnT ?_
     refine rt1 rfl ⟨Below.refl _ _,?_⟩
     rw [dec_neg]
     intro h
     have:=(h.rowOK hr).rng j y hy
     simp at hbad2
     omega
    refine rnT ?_
    refine KW.rd (j+1) ⟨by omega,rfl,fun i z hi hz=> ?_⟩
    rcases Nat.lt_or_ge i j with h|h
    ·exact hrng i z h hz
    ·obtain rfl:i=j:=by omega
     rw [hy] at hz; cases hz
     simp at hgood2
     omega
   ·refine rnT ?_
    refine KW.rd (k+1) ⟨by omega,rfl,fun i r' hi hr'=> ?_⟩
    rcases Nat.lt_or_ge i k with h|h
    ·exact hrows i r' h hr'
    ·obtain rfl:i=k:=by omega
     rw [hr] at hr'; cases hr'
     exact ⟨hlen,by rw [hx,hx0],fun j y hy=>hrng j y (by have:=(List.getElem?_eq_some_iff.1 hy).1; omega) hy⟩
  ·skip
   refine rnT ?_
   refine TW.ld rfl hcell ?_
   refine TW.v V.assign rfl ⟨ct,trivial⟩ (fun _=>trivial) ?_
   refine TW.v V.assign rfl ⟨ct,trivial⟩ (fun _=>trivial) ?_
   refine TW.nil (KW.pick [0,3,4,16,17,18] [(0,_,_),(3,_,_),(4,_,_),(16,_,_),(17,_,_),(18,_,_)] rfl (KW.then_ ?_))
   refine CW.seq (CW.seq (CW.region ?_))
   refine TW.v V.move rfl ⟨ct,trivial⟩ (fun _=>trivial) ?_
   refine TW.v V.lenSlice rfl ⟨ct,trivial⟩ (fun _=>trivial) ?_
   refine TW.v V.move rfl ⟨ct,trivial⟩ (fun _=>trivial) ?_
   refine TW.v V.lenSlice rfl ⟨ct,trivial⟩ (fun _=>trivial) ?_
   refine TW.v V.neq rfl ⟨ct,ct,trivial⟩ (fun _=>trivial) ?_
   refine TW.v V.move rfl ⟨ct,trivial⟩ (fun _=>trivial) ?_
   refine TW.dead (.bool false) rfl (by simp [Cnd]; omega) rfl ?_
   refine TW.dead (.bool false) rfl (by simp [Cnd]; omega) rfl ?_
   refine TW.dead (.bool false) rfl (by simp [Cnd]; omega) rfl ?_
   refine TW.dead (.bool false) rfl (by simp [Cnd]; omega) rfl ?_
   refine TW.dead (.bool false) rfl (by simp [Cnd]; omega) rfl ?_
   refine rnT ?_
   refine CW.pk [0,3,4,16,17,18,34] rfl ?_
   refine CW.cond rfl (fun hbad=> ?_) (fun hgood=> ?_)
   ·refine rnT ?_
    refine rt1 rfl ⟨Below.refl _ _,by rw [dec_neg (fun h=>hlen (h.rowOK hr).len)]⟩
   exfalso
   simp at hgood
   omega
 ·have hrows': ∀(i:Nat) (r:List Int),d[i]?=some r→RowOK d i r:=fun i r hr=>hrows i r (by have:=(List.getElem?_eq_some_iff.1 hr).1; omega) hr
  have hall: ∀i,i<d.length→ ∃r,d[i]?=some r∧r.length=d.length:=fun i hi=>⟨d[i],List.getElem?_eq_getElem hi,(hrows' i _ (List.getElem?_eq_getElem hi)).len⟩
  refine rnT ?_
  refine CW.lp [0,49,50] (fun i:Nat=> [(51,none,.int .i64 (i:Int))])
   (fun i W'=>i≤d.length∧W'=W∧ ∀a b c,a<i→b<d.length→c<d.length→Tri d a b c) (fun i=>d.length-i) 0 ⟨by omega,rfl,fun a b c ha=>by omega⟩ ?_
  rintro i W' ⟨hi,rfl,htri⟩
  refine rnT ?_
  refine CW.condP rfl (fun hlt1=> ?_) (fun hge1=> ?_)
  ·have hil:i<d.length:=by omega
   obtain ⟨r,hr,hrl⟩:=hall i hil
   obtain ⟨ad,rfl⟩:=hd.addr (by omega)
   obtain ⟨rv,hcell,hrow⟩:=hd.row hr
   obtain ⟨B,rcap,rfl,_⟩:=hrow.form
   obtain ⟨bd,rfl⟩:=hrow.addr (by omega)
   refine rnT ?_
   refine TW.ld rfl hcell ?_
   refine rnT ?_
   refine CW.lp [0,7,8,49,50,51,56,57] (fun k:Nat=> [(58,none,.int .i64 (k:Int))])
    (fun k W2=>k≤d.length∧W2=W'∧ ∀b c,b<k→c<d.length→Tri d i b c) (fun k=>d.length-k) 0 ⟨by omega,rfl,fun b c hb=>by omega⟩ ?_
   rintro k W2 ⟨hk2,rfl,htri2⟩
   refine rnT ?_
   refine CW.condP rfl (fun hlt2=> ?_) (fun hge2=> ?_)
   ·have hkl:k<d.length:=by omega
    obtain ⟨x,hx⟩: ∃x,r[k]?=some x:=⟨r[k]'(by omega),List.getElem?_eq_getElem (by omega)⟩
    have hxa:=at2_eq hr hx
    obtain ⟨r2,hr2,hr2l⟩:=hall k hkl
    obtain ⟨rv2,hcell2,hrow2⟩:=hd.row hr2
    obtain ⟨B2,rcap2,rfl,_⟩:=hrow2.form
    obtain ⟨bd2,rfl⟩:=hrow2.addr (by omega)
    have hxr:=(hrows' i r hr).rng k x hx
    refine rnT ?_
    refine TW.ld rfl (hrow.getI hx) ?_
    refine rnT ?_
    refine CW.pk [0,7,8,9,10,49,50,51,56,57,58,69] rfl ?_
    refine CW.cond rfl (fun hskip=> ?_) (fun hgo=> ?_)
    ·refine rnT ?_
     refine KW.rd (k+1) ⟨by omega,rfl,fun b c hb hc=> ?_⟩
     rcases Nat.lt_or_ge b k with h|h
     ·exact htri2 b c h hc
     ·obtain rfl:b=k:=by omega
      intro q1 q2
      rw [hxa] at q1
      simp at hskip
      have hib:i=b:=by omega
      subst hib
      have hx0:x=0:=by
       have:=(hrows' i r hr).diag
       rw [hx] at this
       simpa using this
      rw [hxa,hx0]
      exact ⟨q2,by omega⟩
    have hx1:x≠ -1:=fun h=>by simp [h] at hgo
    refine rnT ?_
    refine TW.ld rfl hcell2 ?_
    refine rnT ?_
    refine CW.lp [0,7,8,10,49,50,51,56,57,58,73,74] (fun j:Nat=> [(75,none,.int .i64 (j:Int))])
     (fun j W3=>j≤d.length∧W3=W2∧ ∀c,c<j→Tri d i k c) (fun j=>d.length-j) 0 ⟨by omega,rfl,fun c hc=>by omega⟩ ?_
    rintro j W3 ⟨hj3,rfl,htri3⟩
    refine rnT ?_
    refine CW.condP rfl (fun hlt3=> ?_) (fun hge3=> ?_)
    ·have hjl:j<d.length:=by omega
     obtain ⟨y,hy⟩: ∃y,r2[j]?=some y:=⟨r2[j]'(by omega),List.getElem?_eq_getElem (by omega)⟩
     obtain ⟨z,hz⟩: ∃z,r[j]?=some z:=⟨r[j]'(by omega),List.getElem?_eq_getElem (by omega)⟩
     have hya:=at2_eq hr2 hy
     have hza:=at2_eq hr hz
     have hyr:=(hrows' k r2 hr2).rng j y hy
     refine rnT ?_
     refine TW.ld rfl (hrow2.getI hy) ?_
     refine rnT ?_
     refine TW.ld rfl (hrow.getI hz) ?_
     refine rnT ?_
     refine TW.ld rfl (hrow.getI hz) ?_
     refine rnT ?_
     refine CW.pk [0,7,8,10,11,12,49,50,51,56,57,58,73,74,75,98] rfl ?_
     refine CW.cond rfl (fun hbad=> ?_) (fun hgood=> ?_)
     ·refine rnT ?_
      refine rt1 rfl ⟨Below.refl _ _,?_⟩
      rw [dec_neg]
      intro h
      have ht:=h.tri i k j hil hkl hjl (by rw [hxa]; exact hx1)
      rw [hxa,hya,hza] at ht
      simp at hbad
      have:=ht hbad.1
      omega
     refine rnT ?_
     refine KW.rd (j+1) ⟨by omega,rfl,fun c hc=> ?_⟩
     rcases Nat.lt_or_ge c j with h|h
     ·exact htri3 c h
     ·obtain rfl:c=j:=by omega
      intro _ q2
      rw [hya] at q2
      rw [hxa,hya,hza]
      simp [q2] at hgood
      omega
    ·refine rnT ?_
     refine KW.rd (k+1) ⟨by omega,rfl,fun b c hb hc=> ?_⟩
     rcases Nat.lt_or_ge b k with h|h
     ·exact htri2 b c h hc
     ·obtain rfl:b=k:=by omega
      exact htri3 c (by omega)
   ·refine rnT ?_
    refine KW.rd (i+1) ⟨by omega,rfl,fun a b c ha hb hc=> ?_⟩
    rcases Nat.lt_or_ge a i with h|h
    ·exact htri a b c h hb hc
    ·obtain rfl:a=i:=by omega
     exact htri2 b c (by omega) hc
  ·refine rnT ?_
   refine rt1 rfl ⟨Below.refl _ _,by rw [dec_pos (wfd_of h12 hrows' (fun a b c ha hb hc=>htri a b c (by omega) hb hc))]⟩
theorem rdistances_c (hd:SD w v d):Gives Tryz.prog 165 #[v] w fun u w'=>Below w.heap.size w w'∧u= .bool (dec (WfD d)):=by
 obtain ⟨A,cap,rfl,hcap⟩:=hd.form
 have hmax:d.length≤9223372036854775807:=hd.len.2.2
 refine gv (f:=165) ?_
 refine rnT ?_
 refine CW.condP rfl (fun hbig=> ?_) (fun hsmall=> ?_)
 ·refine rnT ?_
  refine rt1 rfl ⟨Below.refl _ _,by rw [dec_neg (fun h=>by have:=h.few; omega)]⟩
 have h12:d.length≤12:=by omega
 refine rnT ?_
 refine CW.lp [0,3] (fun k:Nat=> [(4,none,.int .i64 (k:Int))])
  (fun k W=>k≤d.length∧W=w∧ ∀(i:Nat) (r:List Int),i<k→d[i]?=some r→RowOK d i r) (fun k=>d.length-k) 0 ⟨by omega,rfl,fun i r hi=>by omega⟩ ?_
 rintro k W ⟨hk,rfl,hrows⟩
 refine rnT ?_
 refine CW.condP rfl (fun hlt=> ?_) (fun hge=> ?_)
 ·have hkl:k<d.length:=by omega
  obtain ⟨r,hr⟩: ∃r,d[k]?=some r:=⟨d[k],List.getElem?_eq_getElem hkl⟩
  obtain ⟨ad,rfl⟩:=hd.addr (by omega)
  obtain ⟨rv,hcell,hrow⟩:=hd.row hr
  obtain ⟨B,rcap,rfl,_⟩:=hrow.form
  by_cases hlen:r.length=d.length
  ·obtain ⟨bd,rfl⟩:=hrow.addr (by omega)
   obtain ⟨x,hx⟩: ∃x,r[k]?=some x:=⟨r[k]'(by omega),List.getElem?_eq_getElem (by omega)⟩
   refine rnT ?_
   refine TW.ld rfl hcell ?_
   refine rnT ?_
   refine TW.ld rfl hcell ?_
   refine rnT ?_
   refine TW.ld rfl (hrow.getI hx) ?_
   refine rnT ?_
   refine CW.pk [0,3,4,34] rfl ?_
   refine CW.cond rfl (fun hbad=> ?_) (fun hgood=> ?_)
   ·refine rnT ?_
    refine rt1 rfl ⟨Below.refl _ _,?_⟩
    rw [dec_neg]
    intro h
    have:=(h.rowOK hr).diag
    rw [hx] at this
    simp [hlen] at hbad
    exact hbad (by simpa using this)
   have hx0:x=0:=by simpa [hlen] using hgood
   refine rnT ?_
   refine CW.lp [0,3,4] (fun j:Nat=> [(5,none,.int .i64 (j:Int))])
    (fun j W'=>j≤r.length∧W'=W∧ ∀(i:Nat) (y:Int),i<j→r[i]?=some y→ -1≤y∧y≤1000000) (fun j=>r.length-j) 0 ⟨by omega,rfl,fun i y hi=>by omega⟩ ?_
   rintro j W' ⟨hj,rfl,hrng⟩
   refine rnT ?_
   refine CW.condP rfl (fun hlt2=> ?_) (fun hge2=> ?_)
   ·have hjl:j<r.length:=by omega
    obtain ⟨y,hy⟩: ∃y,r[j]?=some y:=⟨r[j],List.getElem?_eq_getElem hjl⟩
    refine rnT ?_
    refine TW.ld rfl hcell ?_
    refine rnT ?_
    refine TW.ld rfl (hrow.getI hy) ?_
    refine rnT ?_
    refine TW.ld rfl hcell ?_
    refine rnT ?_
    refine TW.ld rfl (hrow.getI hy) ?_
    refine rnT ?_
    refine CW.pk [0,3,4,5,57] rfl ?_
    refine CW.cond rfl (fun hbad2=> ?_) (fun hgood2=> ?_)
    ·refine rnT ?_
     refine rt1 rfl ⟨Below.refl _ _,?_⟩
     rw [dec_neg]
     intro h
     have:=(h.rowOK hr).rng j y hy
     simp at hbad2
     omega
    refine rnT ?_
    refine KW.rd (j+1) ⟨by omega,rfl,fun i z hi hz=> ?_⟩
    rcases Nat.lt_or_ge i j with h|h
    ·exact hrng i z h hz
    ·obtain rfl:i=j:=by omega
     rw [hy] at hz; cases hz
     simp at hgood2
     omega
   ·refine rnT ?_
    refine KW.rd (k+1) ⟨by omega,rfl,fun i r' hi hr'=> ?_⟩
    rcases Nat.lt_or_ge i k with h|h
    ·exact hrows i r' h hr'
    ·obtain rfl:i=k:=by omega
     rw [hr] at hr'; cases hr'
     exact ⟨hlen,by rw [hx,hx0],fun j y hy=>hrng j y (by have:=(List.getElem?_eq_some_iff.1 hy).1; omega) hy⟩
  ·skip
   refine rnT ?_
   refine TW.ld rfl hcell ?_
   refine TW.v V.lenSlice rfl ⟨ct,trivial⟩ (fun _=>trivial) ?_
   refine TW.v V.move rfl ⟨ct,trivial⟩ (fun _=>trivial) ?_
   refine TW.v V.neq rfl ⟨ct,ct,trivial⟩ (fun _=>trivial) ?_
   refine TW.v V.move rfl ⟨ct,trivial⟩ (fun _=>trivial) ?_
   refine TW.dead (.bool false) rfl (by simp [Cnd]; omega) rfl ?_
   refine TW.dead (.bool false) rfl (by simp [Cnd]; omega) rfl ?_
   refine TW.dead (.bool false) rfl (by simp [Cnd]; omega) rfl ?_
   refine TW.dead (.bool false) rfl (by simp [Cnd]; omega) rfl ?_
   refine TW.dead (.bool false) rfl (by simp [Cnd]; omega) rfl ?_
   refine TW.dead (.bool false) rfl (by simp [Cnd]; omega) rfl ?_
   refine TW.dead (.bool false) rfl (by simp [Cnd]; omega) rfl ?_
   refine TW.dead (.bool false) rfl (by simp [Cnd]; omega) rfl ?_
   refine rnT ?_
   refine CW.pk [0,3,4,34] rfl ?_
   refine CW.cond rfl (fun hbad=> ?_) (fun hgood=> ?_)
   ·refine rnT ?_
    refine rt1 rfl ⟨Below.refl _ _,by rw [dec_neg (fun h=>hlen (h.rowOK hr).len)]⟩
   exfalso
   simp at hgood
   omega
 ·have hrows': ∀(i:Nat) (r:List Int),d[i]?=some r→RowOK d i r:=fun i r hr=>hrows i r (by have:=(List.getElem?_eq_some_iff.1 hr).1; omega) hr
  have hall: ∀i,i<d.length→ ∃r,d[i]?=some r∧r.length=d.length:=fun i hi=>⟨d[i],List.getElem?_eq_getElem hi,(hrows' i _ (List.getElem?_eq_getElem hi)).len⟩
  refine rnT ?_
  refine CW.lp [0,3] (fun i:Nat=> [(6,none,.int .i64 (i:Int))])
   (fun i W'=>i≤d.length∧Below W.heap.size W W'∧ ∀a b c,a<i→b<d.length→c<d.length→Tri d a b c) (fun i=>d.length-i) 0 ⟨by omega,Below.refl _ _,fun a b c ha=>by omega⟩ ?_
  rintro i W' ⟨hi,hB1,htri⟩
  refine rnT ?_
  refine CW.condP rfl (fun hlt1=> ?_) (fun hge1=> ?_)
  ·have hil:i<d.length:=by omega
   obtain ⟨r,hr,hrl⟩:=hall i hil
   obtain ⟨ad,rfl⟩:=hd.addr (by omega)
   refine rnT ?_
   refine CW.lp [0,3,6] (fun j:Nat=> [(7,none,.int .i64 (j:Int))])
    (fun j W2=>j≤d.length∧Below W.heap.size W W2∧ ∀b c,b<d.length→c<j→Tri d i b c) (fun j=>d.length-j) 0 ⟨by omega,hB1,fun b c _ hb=>by omega⟩ ?_
   rintro j W2 ⟨hj2,hB2,htri2⟩
   refine rnT ?_
   refine CW.condP rfl (fun hlt2=> ?_) (fun hge2=> ?_)
   ·have hjl:j<d.length:=by omega
    obtain ⟨z,hz⟩: ∃z,r[j]?=some z:=⟨r[j]'(by omega),List.getElem?_eq_getElem (by omega)⟩
    have hza:=at2_eq hr hz
    refine rnT ?_
    refine CW.lp [0,3,6,7] (fun k:Nat=> [(8,none,.int .i64 (k:Int))])
     (fun k W3=>k≤d.length∧Below W.heap.size W W3∧ ∀b,b<k→Tri d i b j) (fun k=>d.length-k) 0 ⟨by omega,hB2,fun c hc=>by omega⟩ ?_
    rintro k W3 ⟨hk3,hB3,htri3⟩
    refine rnT ?_
    refine CW.condP rfl (fun hlt3=> ?_) (fun hge3=> ?_)
    ·have hkl:k<d.length:=by omega
     obtain ⟨x,hx⟩: ∃x,r[k]?=some x:=⟨r[k]'(by omega),List.getElem?_eq_getElem (by omega)⟩
     have hxa:=at2_eq hr hx
     obtain ⟨r2,hr2,hr2l⟩:=hall k hkl
     have hd3:=sd_step hd hB3
     obtain ⟨rv,hcell,hrow⟩:=hd3.row hr
     obtain ⟨B,rcap,rfl,_⟩:=hrow.form
     obtain ⟨bd,rfl⟩:=hrow.addr (by omega)
     obtain ⟨rv2,hcell2,hrow2⟩:=hd3.row hr2
     obtain ⟨B2,rcap2,rfl,_⟩:=hrow2.form
     obtain ⟨bd2,rfl⟩:=hrow2.addr (by omega)
     have hxr:=(hrows' i r hr).rng k x hx
     obtain ⟨y,hy⟩: ∃y,r2[j]?=some y:=⟨r2[j]'(by omega),List.getElem?_eq_getElem (by omega)⟩
     have hya:=at2_eq hr2 hy
     have hyr:=(hrows' k r2 hr2).rng j y hy
     have hzr:=(hrows' i r hr).rng j z hz
     refine rnT ?_
     refine CW.draw mixed (by kernel_rfl) ?_
     refine rnD ?_
     refine DW.ld rfl hcell ?_
     refine rnD ?_
     refine DW.ld rfl (hrow.getI hx) ?_
     refine rnD ?_
     refine DW.ld rfl hcell2 ?_
     refine rnD ?_
     refine DW.ld rfl (hrow2.getI hy) ?_
     refine rnD ?_
     refine DW.ld rfl hcell ?_
     refine rnD ?_
     refine DW.ld rfl (hrow.getI hz) ?_
     refine rnD ?_
     refine DW.ld rfl hcell ?_
     refine rnD ?_
     refine DW.ld rfl (hrow.getI hz) ?_
     refine rnD ?_
     refine DW.ld rfl hcell ?_
     refine rnD ?_
     refine DW.ld rfl (hrow.getI hx) ?_
     refine rnD ?_
     refine DW.ld rfl hcell2 ?_
     refine rnD ?_
     refine DW.ld rfl (hrow2.getI hy) ?_
     refine rnD ?_
     refine DW.fi [0,3,6,7,8,125] rfl fun W4 hb4=> ?_
     refine KW.then_ ?_
     have hB4:=hB3.trans (hb4.mono hB3.size)
     refine CW.cond rfl (fun hbad=> ?_) (fun hgood=> ?_)
     ·refine rnT ?_
      refine rt1 rfl ⟨hB4,?_⟩
      rw [dec_neg]
      intro h
      have ht:=h.tri i k j hil hkl hjl
      rw [hxa,hya,hza] at ht
      simp at hbad
      have:=ht (by omega) (by omega)
      omega
     refine rnT ?_
     refine KW.rd (k+1) ⟨by omega,hB4,fun b hb=> ?_⟩
     rcases Nat.lt_or_ge b k with h|h
     ·exact htri3 b h
     ·obtain rfl:b=k:=by omega
      intro q1 q2
      rw [hxa] at q1
      rw [hya] at q2
      rw [hxa,hya,hza]
      have e1:0≤x:=by omega
      have e2:0≤y:=by omega
      simp [e1,e2] at hgood
      omega
    ·refine rnT ?_
     refine KW.rd (j+1) ⟨by omega,hB3,fun b c hb hc=> ?_⟩
     rcases Nat.lt_or_ge c j with h|h
     ·exact htri2 b c hb h
     ·obtain rfl:c=j:=by omega
      exact htri3 b (by omega)
   ·refine rnT ?_
    refine KW.rd (i+1) ⟨by omega,hB2,fun a b c ha hb hc=> ?_⟩
    rcases Nat.lt_or_ge a i with h|h
    ·exact htri a b c h hb hc
    ·obtain rfl:a=i:=by omega
     exact htri2 b c hb (by omega)
  ·refine rnT ?_
   refine rt1 rfl ⟨hB1,by rw [dec_pos (wfd_of h12 hrows' (fun a b c ha hb hc=>htri a b c (by omega) hb hc))]⟩
end Go.Proofs.YtobaafdejnimkaaGreatDoor
namespace Go.PF
open Go.RowKit Go.Ord
def evT:Ty Ev where
 n:=4
 rep:=fun F w cs e=> ∃v,cs= [.int .i64 e.office,.int .i64 e.low,.int .i64 e.high,v]∧I64 e.office∧I64 e.low∧I64 e.high∧SL intT F w v e.needs
 len:=fun _ _ _ _ h=>by obtain ⟨v,h,_⟩:=h; rw [h]; rfl
 mono:=fun _ _ _ _ _ hk h=>by obtain ⟨v,h,h1,h2,h3,hs⟩:=h; exact ⟨v,h,h1,h2,h3,hs.mono hk⟩
 wider:=fun _ _ _ _ _ hF h=>by obtain ⟨v,h,h1,h2,h3,hs⟩:=h; exact ⟨v,h,h1,h2,h3,hs.wider hF⟩
theorem evT_now:Ty.Now evT:=⟨by decide,fun F w cs e ⟨v,h,h1,h2,h3,hs⟩=>⟨v,h,h1,h2,h3,hs.now intT_now⟩⟩
abbrev SE (w:World) (v:Value) (l:List Ev):Prop:=SL evT (fun k=>k<w.heap.size) w v l
theorem se_step {w w':World} {v:Value} {l:List Ev} (h:SE w v l) (hb:Below w.heap.size w w'):SE w' v l:=h.step evT_now hb
theorem SE.get {F:Nat→Prop} {w:World} {ad:Addr} {n cap:Nat} {l:List Ev} (h:SL evT F w (.slice (some ad) n cap) l) {i:Nat} {e:Ev} (hx:l[i]?=some e) :
  ∃ v,(∀j u,[Value.int .i64 e.office,.int .i64 e.low,.int .i64 e.high,v][j]?=some u→w.cell? ((ad.add ((i:Int).toNat*4)).add j)=some u)∧I64 e.office∧I64 e.low∧I64 e.high∧SL intT F w v e.needs:=by
 obtain ⟨ad',cs,h1,_,⟨v,rfl,g1,g2,g3,hs⟩,hc⟩:=h.at hx
 cases h1
 exact ⟨v,hc,g1,g2,g3,hs⟩
theorem Blk.sub {w:World} {g:Nat} {t:TypeId} {cs:List Value} (h:Blk w g t cs) (k:Nat) (ds:List Value) (hk:cs.drop k=ds): ∀j v,ds[j]?=some v→w.cell? ((Addr.add ⟨g,0,none⟩ k).add j)=some v:=fun j v hj=>by
 rw [Addr.add_add]
 refine h.fld ?_
 rw [←hk,List.getElem?_drop] at hj
 exact hj
def EvV (F:Nat→Prop) (w:World) (cs:List Value) (e:Ev):Prop:=evT.rep F w cs e
end Go.PF
namespace Go.Proofs.YtobaafdejnimkaaGreatDoor
open Go.PF Go.RowKit Go.Ord
attribute [local irreducible] TW CW KW DW
variable {w:World} {d:Dist} {m g n i c k:Nat} {us:List U} {u:U} {e:Ev} {A:Option Addr} {dv uv fv:Value} {s:St}
structure WfE (d:Dist) (l:List Ev):Prop where
 wd:WfD d
 few:l.length≤16
 each: ∀e∈l,EOK d e
theorem owell_c {v u:Value} {l:List Ev} (hd:SD w v d) (hl:SE w u l):Gives Tryz.prog 79 #[v,u,.slice none 0 0] w fun x w'=>Below w.heap.size w w'∧x= .bool (dec (WfE d l)):=by
 obtain ⟨A,cap,rfl,hcap⟩:=hd.form
 obtain ⟨B,lcap,rfl,hlcap⟩:=hl.form
 have hmax:d.length≤9223372036854775807:=hd.len.2.2
 have hlmax:l.length≤9223372036854775807:=hl.len.2.2
 refine gv (f:=79) ?_
 refine rnT ?_
 refine TW.box rfl rfl rfl rfl ?_
 rintro g w1 f1
 refine rnT ?_
 refine TW.cl rfl (distances_c (sd_step hd f1.below)) ?_
 rintro v2 w2 ⟨hb2,rfl⟩
 have hB2:Below w.heap.size w w2:=f1.below.step hb2
 have hblk:=f1.blk.next hb2
 refine rnT ?_
 refine TW.ld rfl (hblk.cell 0) ?_
 refine rnT ?_
 refine CW.cond rfl (fun hbad=> ?_) (fun hgood=> ?_)
 ·refine rnT ?_
  refine rt1 rfl ⟨hB2,?_⟩
  rw [dec_neg]
  intro h
  simp [dec_pos h.wd] at hbad
  have:=h.few
  omega
 have hwd:WfD d:=dec_iff.1 (by cases hq:dec (WfD d)<;>simp_all)
 have hfew:l.length≤16:=by
  simp [dec_pos hwd] at hgood
  omega
 refine rnT ?_
 refine TW.ld rfl (hblk.cell 0) ?_
 refine rnT ?_
 refine CW.lp [0,1,2,4,6,21,22] (fun k:Nat=> [(23,none,.int .i64 (k:Int))])
  (fun k W=>k≤l.length∧Below w.heap.size w W∧Blk W g 31 [.slice B l.length lcap]∧ ∀(i:Nat) (e:Ev),i<k→l[i]?=some e→EOK d e) (fun k=>l.length-k) 0 ⟨by omega,hB2,hblk,fun i e hi=>by omega⟩ ?_
 rintro k W ⟨hk,hB3,hblk3,heach⟩
 refine rnT ?_
 refine CW.condP rfl (fun hlt=> ?_) (fun hge=> ?_)
 ·have hkl:k<l.length:=by omega
  obtain ⟨e,he⟩: ∃e,l[k]?=some e:=⟨l[k],List.getElem?_eq_getElem hkl⟩
  have hl3:=se_step hl hB3
  obtain ⟨ad,rfl⟩:=hl3.addr (by omega)
  obtain ⟨nv,hcells,i1,i2,i3,hneeds⟩:=SE.get hl3 he
  obtain ⟨C,ncap,rfl,_⟩:=hneeds.form
  refine rnT ?_
  refine TW.ldS rfl (hcells) ?_
  refine TW.newVar rfl zc60 rfl sz60 rfl rfl ?_
  rintro g4 w4 f4
  refine rnT ?_
  refine TW.ld rfl (f4.blk.fld rfl) ?_
  refine rnT ?_
  refine TW.ld rfl (f4.blk.fld rfl) ?_
  refine rnT ?_
  refine CW.pk [0,1,2,4,6,8,21,22,23,36] rfl ?_
  refine CW.cond rfl (fun hbad2=> ?_) (fun hgood2=> ?_)
  ·refine rnT ?_
   refine rt1 rfl ⟨hB3.step f4.below,?_⟩
   rw [dec_neg]
   intro h
   have h1:=h.each e (List.mem_of_getElem? he)
   have:=h1.o1
   have:=h1.o2
   simp at hbad2
   omega
  refine rnT ?_
  refine KW.rd (k+1) ⟨by omega,hB3.step f4.below,hblk3.next f4.below,fun i e' hi he'=> ?_⟩
  rcases Nat.lt_or_ge i k with h|h
  ·exact heach i e' h he'
  ·obtain rfl:i=k:=by omega
   rw [he] at he'; cases he'
   simp at hgood2
   exact ⟨by omega,by omega⟩
 ·have hok:WfE d l:=⟨hwd,hfew,fun e he=>by
   obtain ⟨i,hi,he'⟩:=List.getElem_of_mem he
   exact heach i e (by omega) (by rw [List.getElem?_eq_getElem hi,he'])⟩
  refine rnT ?_
  refine TW.ld rfl (hblk3.cell 0) ?_
  refine rnT ?_
  refine TW.makeSlice rfl rfl (zero1_of go134 ze4 rfl) rfl rfl (by omega) (by omega) ?_
  rintro g5 w5 f5
  refine TW.newVar1 rfl zc134 rfl sz134 rfl ?_
  rintro g6 w6 f6
  refine rnT ?_
  refine TW.makeFunc rfl rfl (Args.cons rfl ct (Args.cons rfl ct Args.nil)) ?_
  refine rnT ?_
  have hB6:=(hB3.step f5.below).step f6.below
  refine CW.loopS (fun _:Unit=> [(43,none,.int .i64 ((0:Nat):Int)),(44,none,.int .i64 0)])
   (fun _ W'=>W'=w6) (fun k=>0) () [43,44] rfl rfl ?_
  rintro _ W' rfl
  refine rnT ?_
  refine CW.pk [43,44,45] rfl ?_
  refine CW.condP rfl (fun hlt2=> ?_) (fun hge2=> ?_)
  ·exfalso
   omega
  ·refine rnT ?_
   refine rt1 rfl ⟨hB6,by rw [dec_pos hok]⟩
theorem clamp_c:Gives Tryz.prog 313 #[.agg #[.int .i64 e.office,.int .i64 e.low,.int .i64 e.high,.slice A n c]] w fun x w'=>Below w.heap.size w w'∧x= .tuple #[.int .i64 (lowC e),.int .i64 (highC e)]:=by
 refine gv (f:=313) ?_
 refine rnT ?_
 refine TW.box rfl rfl rfl rfl ?_
 rintro g w1 f1
 refine rnT ?_
 refine CW.draw mixed (by kernel_rfl) ?_
 refine rnD ?_
 refine DW.ld rfl (f1.blk.fld rfl) ?_
 refine DW.v V.maxI rfl ⟨ct,ct,trivial⟩ (fun _=>trivial) ?_
 refine DW.v V.minI rfl ⟨ct,ct,trivial⟩ (fun _=>trivial) ?_
 refine rnD ?_
 refine DW.ld rfl (f1.blk.fld rfl) ?_
 refine DW.v V.minI rfl ⟨ct,ct,trivial⟩ (fun _=>trivial) ?_
 refine DW.v V.maxI rfl ⟨ct,ct,trivial⟩ (fun _=>trivial) ?_
 refine rnD ?_
 refine DW.fi [0,1,2,3] rfl fun w2 hb2=> ?_
 refine rnT ?_
 refine rt2 rfl ⟨f1.below.step hb2,rfl⟩
theorem m_window:Meth Tryz.prog "postilion/order.window" 218 316:=fun _ _ _=>by kernel_rfl
theorem m_ends:Meth Tryz.prog "postilion/order.ends" 218 314:=fun _ _ _=>by kernel_rfl
theorem m_span:Meth Tryz.prog "postilion/order.span" 218 315:=fun _ _ _=>by kernel_rfl
theorem m_write:Meth Tryz.prog "postilion/order.write" 218 317:=fun _ _ _=>by kernel_rfl
theorem window_c {i:Int}:Gives Tryz.prog 316 #[.agg #[.int .i64 i,.int .i64 e.office,.int .i64 e.low,.int .i64 e.high,.slice A n c]] w fun x w'=>Below w.heap.size w w'∧x= .tuple #[.int .i64 (lowC e),.int .i64 (highC e)]:=by
 refine gv (f:=316) ?_
 refine rnT ?_
 refine TW.box rfl rfl rfl rfl ?_
 rintro g w1 f1
 refine rnT ?_
 refine TW.ldS rfl (f1.blk.sub 1 [.int .i64 e.office,.int .i64 e.low,.int .i64 e.high,.slice A n c] rfl) ?_
 refine TW.cl rfl (clamp_c) ?_
 rintro v2 w2 ⟨hb2,rfl⟩
 refine rnT ?_
 refine rt2 rfl ⟨f1.below.step hb2,rfl⟩
theorem ends_c {i:Int}:Gives Tryz.prog 314 #[.agg #[.int .i64 i,.int .i64 e.office,.int .i64 e.low,.int .i64 e.high,.slice A n c]] w fun x w'=>Below w.heap.size w w'∧x= .tuple #[.int .i64 e.office,.int .i64 e.office]:=by
 refine gv (f:=314) ?_
 refine rnT ?_
 refine TW.box rfl rfl rfl rfl ?_
 rintro g w1 f1
 refine rnT ?_
 refine CW.draw mixed (by kernel_rfl) ?_
 refine rnD ?_
 have hc:w1.cell? ((Addr.add ⟨g,0,none⟩ 1).add 0)=some (.int .i64 e.office):=by rw [Addr.add_add]; exact f1.blk.fld rfl
 refine DW.ld rfl hc ?_
 refine rnD ?_
 refine DW.ld rfl hc ?_
 refine rnD ?_
 refine DW.fi [0,1,2,3] rfl fun w2 hb2=> ?_
 refine rnT ?_
 refine rt2 rfl ⟨f1.below.step hb2,rfl⟩
theorem span_c {i:Int}:Gives Tryz.prog 315 #[.agg #[.int .i64 i,.int .i64 e.office,.int .i64 e.low,.int .i64 e.high,.slice A n c]] w fun x w'=>Below w.heap.size w w'∧x= .int .i64 0:=by
 refine gv (f:=315) ?_
 refine rnT ?_
 refine TW.box rfl rfl rfl rfl ?_
 rintro g w1 f1
 refine rnT ?_
 refine rt1 rfl ⟨f1.below,rfl⟩
def Times (w:World) (g:Nat) (n:Nat):Prop:= ∃xs:List Int,xs.length=n∧Blk w g 3 (xs.map (Value.int .i64))
theorem write_c {t:Int} (him:i<m) (hm:m≤16) (ht:Times w g m):Gives Tryz.prog 317 #[.agg #[.int .i64 (i:Int),.int .i64 e.office,.int .i64 e.low,.int .i64 e.high,.slice A n c],.slice (some ⟨g,0,none⟩) m m,.int .i64 t] w fun _ w'=>But g w w'∧Times w' g m:=by
 obtain ⟨xs,hxl,hB⟩:=ht
 refine gv (f:=317) ?_
 refine rnT ?_
 refine TW.box rfl rfl rfl rfl ?_
 rintro g1 w1 f1
 refine rnT ?_
 refine TW.ld rfl (f1.blk.fld rfl) ?_
 refine rnT ?_
 have hB1:=hB.next f1.below
 refine TW.storeFld rfl sz3 rfl rfl hB1 (by simp; omega) rfl ?_
 rintro w2 hB2 hbut hsz
 refine rnT ?_
 refine end0 Tryz.results317 ⟨(But.of_below f1.below).trans hbut,xs.set i t,by simp [hxl],by simpa [List.map_set] using hB2⟩
def UV (m:Nat) (v:Value) (u:U):Prop:= ∃t x kw ke ks kr,v= .iface t x∧Meth Tryz.prog "postilion/order.window" t kw∧Meth Tryz.prog "postilion/order.ends" t ke∧Meth Tryz.prog "postilion/order.span" t ks∧Meth Tryz.prog "postilion/order.write" t kr ∧
 (∀w,Gives Tryz.prog kw #[x] w fun y w'=>Below w.heap.size w w'∧y= .tuple #[.int .i64 u.low,.int .i64 u.high]) ∧
 (∀w,Gives Tryz.prog ke #[x] w fun y w'=>Below w.heap.size w w'∧y= .tuple #[.int .i64 (u.entry:Int),.int .i64 (u.exit:Int)]) ∧
 (∀w,Gives Tryz.prog ks #[x] w fun y w'=>Below w.heap.size w w'∧y= .int .i64 u.span) ∧
 (∀w g b,-1≤b→b≤3000000→Times w g m→Gives Tryz.prog kr #[x,.slice (some ⟨g,0,none⟩) m m,.int .i64 b] w fun _ w'=>But g w w'∧Times w' g m)
def uvT (m:Nat):Ty U where
 n:=1
 rep:=fun _ _ cs u=> ∃v,cs= [v]∧UV m v u
 len:=fun _ _ _ _ h=>by obtain ⟨v,h,_⟩:=h; rw [h]; rfl
 mono:=fun _ _ _ _ _ _ h=>h
 wider:=fun _ _ _ _ _ _ h=>h
theorem uv_single (him:i<m) (hm:m≤16) (h0:0≤e.office):UV m (.iface 218 (.agg #[.int .i64 (i:Int),.int .i64 e.office,.int .i64 e.low,.int .i64 e.high,.slice A n c])) (uOf e):=by
 refine ⟨_,_,_,_,_,_,rfl,m_window,m_ends,m_span,m_write,fun w=>window_c,fun w=> ?_,fun w=>span_c,fun w g b _ _ ht=>write_c him hm ht⟩
 have h1:((e.office.toNat:Nat):Int)=e.office:=by omega
 have:=ends_c (w:=w) (i:=(i:Int)) (e:=e) (A:=A) (n:=n) (c:=c)
 show Gives _ _ _ _ fun y w'=>_∧y= .tuple #[.int .i64 ((e.office.toNat:Nat):Int),.int .i64 ((e.office.toNat:Nat):Int)]
 rw [h1]
 exact this
def u32T:Ty Nat where
 n:=1
 rep:=fun _ _ cs x=>cs= [.int .u32 (x:Int)]∧x<2 ^ 32
 len:=fun _ _ _ _ h=>by rw [h.1]; rfl
 mono:=fun _ _ _ _ _ _ h=>h
 wider:=fun _ _ _ _ _ _ h=>h
structure Srch (w:World) (g m:Nat) (d:Dist) (us:List U) (dv uv fv:Value):Prop where
 blk:Blk w g 152 [dv,uv,fv]
 dist:SL (sliceT intT) (fun k=>k<g) w dv d
 units:SL (uvT m) (fun k=>k<g) w uv us
theorem Srch.step {w':World} (h:Srch w g m d us dv uv fv) (hb:Below w.heap.size w w'):Srch w' g m d us dv uv fv :=
 ⟨h.blk.next hb,h.dist.below hb,h.units.below hb⟩
theorem uv_at {F:Nat→Prop} {ad:Addr} {cap:Nat} (h:SL (uvT m) F w (.slice (some ad) n cap) us) (hu:us[i]?=some u): ∃v,w.cell? (ad.add ((i:Int).toNat*1))=some v∧UV m v u:=by
 obtain ⟨ad',cs,h1,_,⟨v,rfl,hv⟩,hc⟩:=h.at hu
 cases h1
 refine ⟨v,?_,hv⟩
 have:=hc 0 v rfl
 rw [Addr.add_add,Nat.add_zero] at this
 exact this
def offI:Option Nat→Int
 | none=> -1
 | some x=>x
noncomputable def begI (d:Dist) (s:St) (u:U):Int:=if dec (CanB d s u) then beg d s u else -1
structure Num (d:Dist) (u:U):Prop where
 ok:UOK d u
 low:0≤u.low∧u.low≤1000001
 high: -1≤u.high∧u.high≤1000000
 span:0≤u.span∧u.span≤1000000
theorem begin_c (hwd:WfD d) (hS:Srch w g m d us dv uv fv) (hu:us[i]?=some u) (hn:Num d u) (hs:SOK d s) (ht: -1≤s.2∧s.2≤3000000) :
  Gives Tryz.prog 88 #[.pointer (some ⟨g,0,none⟩),.agg #[.int .u32 (k:Int),.int .i64 (offI s.1)],.int .i64 s.2,.int .i64 (i:Int)] w fun x w'=>Below w.heap.size w w'∧x= .int .i64 (begI d s u):=by
 obtain ⟨U1,ucap,rfl,_⟩:=hS.units.form
 obtain ⟨D1,dcap,rfl,_⟩:=hS.dist.form
 have hil:i<us.length:=(List.getElem?_eq_some_iff.1 hu).1
 obtain ⟨ua,rfl⟩:=hS.units.addr (by omega)
 refine gv (f:=88) ?_
 refine rnT ?_
 refine TW.box rfl rfl rfl rfl ?_
 rintro g1 w1 f1
 refine rnT ?_
 refine TW.v V.nilCheck rfl ⟨ct,trivial⟩ (fun _=>trivial) ?_
 refine rnT ?_
 have hS1:=hS.step f1.below
 obtain ⟨v1,hc1,hv1⟩:=uv_at hS1.units hu
 obtain ⟨t,x,kw,ke,ks,kr,rfl,mw,me,ms,mr,cw,ce,cs,cr⟩:=hv1
 refine TW.ld rfl (hS1.blk.fld rfl) ?_
 refine rnT ?_
 refine TW.ld rfl hc1 ?_
 refine TW.invoke0 rfl rfl (mw) rfl Args.nil (cw _) ?_
 rintro y2 w2 ⟨hb2,rfl⟩
 refine rnT ?_
 refine TW.v V.nilCheck rfl ⟨ct,trivial⟩ (fun _=>trivial) ?_
 refine rnT ?_
 have hS2:=hS1.step hb2
 obtain ⟨v2,hc2,hv2⟩:=uv_at hS2.units hu
 obtain ⟨t',x',kw',ke',ks',kr',rfl,mw',me',ms',mr',cw',ce',cs',cr'⟩:=hv2
 refine TW.ld rfl (hS2.blk.fld rfl) ?_
 refine rnT ?_
 refine TW.ld rfl hc2 ?_
 refine TW.invoke0 rfl rfl (me') rfl Args.nil (ce' _) ?_
 rintro y3 w3 ⟨hb3,rfl⟩
 refine rnT ?_
 have hS3:=hS2.step hb3
 have hB3:=(f1.blk.next hb2).next hb3
 have hBel:=(f1.below.step hb2).step hb3
 have q1:=hn.low
 have q2:=hn.high
 refine TW.ld rfl (hB3.fld rfl) ?_
 refine rnT ?_
 refine CW.pk [0,1,2,3,5,8,9,10,11,13,38] rfl ?_
 obtain ⟨o,T⟩:=s
 cases o with
 | none =>
  refine CW.condP rfl (fun hne=> ?_) (fun heq=> ?_)
  ·exact absurd rfl hne
  refine rnT ?_
  refine CW.cond rfl (fun hbad=> ?_) (fun hgood=> ?_)
  ·refine rnT ?_
   refine rt1 rfl ⟨hBel,?_⟩
   rw [begI,dec_neg]
   ·rfl
   ·rintro ⟨h1,h2⟩
    simp only [far] at h1 h2
    simp at hbad
    omega
  refine rnT ?_
  refine TW.v V.maxI rfl ⟨ct,ct,trivial⟩ (fun _=>trivial) ?_
  refine rnT ?_
  refine rt1 rfl ⟨hBel,?_⟩
  rw [begI,dec_pos]
  ·rfl
  ·simp at hgood
   exact ⟨by simp [far],by simp only [far]; omega⟩
 | some y =>
  have hy:y<d.length:=hs y rfl
  obtain ⟨da,rfl⟩:=hS.dist.addr (by omega)
  obtain ⟨rw1,hr⟩: ∃r,d[y]?=some r:=⟨d[y],List.getElem?_eq_getElem hy⟩
  obtain ⟨rv,hcell,hrow⟩:=hS3.dist.row hr
  obtain ⟨R1,rcap,rfl,_⟩:=hrow.form
  have hrl:rw1.length=d.length:=hwd.row y rw1 hr
  have he:=hn.ok.e1
  obtain ⟨ra,rfl⟩:=hrow.addr (by omega)
  obtain ⟨z,hz⟩: ∃z,rw1[u.entry]?=some z:=⟨rw1[u.entry]'(by omega),List.getElem?_eq_getElem (by omega)⟩
  have hza:=at2_eq hr hz
  have hzr:=hwd.rng y u.entry hy he
  rw [hza] at hzr
  refine CW.condP rfl (fun hne=> ?_) (fun heq=> ?_)
  ·refine CW.draw mixed (by kernel_rfl) ?_
   refine rnD ?_
   refine DW.v V.nilCheck rfl ⟨ct,trivial⟩ (fun _=>trivial) ?_
   refine rnD ?_
   refine DW.ld rfl (hS3.blk.fld rfl) ?_
   refine rnD ?_
   refine DW.ld rfl (hB3.fld rfl) ?_
   refine DW.v V.indexAddr rfl ⟨ct,ct,trivial⟩ (fun _=>by simp only [offI]; omega) ?_
   refine DW.ld rfl hcell ?_
   refine rnD ?_
   refine DW.ld rfl (hrow.getI hz) ?_
   refine rnD ?_
   refine DW.fi [0,1,2,3,5,8,9,10,11,13] rfl fun w4 hb4=> ?_
   refine rnT ?_
   refine CW.pk [0,1,2,3,5,8,9,10,11,13,58] rfl ?_
   refine CW.cond rfl (fun hbad=> ?_) (fun hgood=> ?_)
   ·refine rnT ?_
    refine rt1 rfl ⟨hBel.step hb4,?_⟩
    rw [begI,dec_neg]
    ·rfl
    ·rintro ⟨h1,h2⟩
     simp only [far,hza] at h1 h2
     simp at hbad
     omega
   refine rnT ?_
   refine TW.v V.maxI rfl ⟨ct,ct,trivial⟩ (fun _=>trivial) ?_
   refine rnT ?_
   refine rt1 rfl ⟨hBel.step hb4,?_⟩
   rw [begI,dec_pos]
   ·simp only [beg,far,hza,if_true]
   ·simp at hgood
    exact ⟨by simp only [far,hza]; omega,by simp only [far,hza]; omega⟩
  ·exfalso
   exact heq (by simp only [offI]; omega)
theorem after_c {o:Int} (hS:Srch w g m d us dv uv fv) (hu:us[i]?=some u) (hk:k<2 ^ 32) (hi:i<32) :
  Gives Tryz.prog 89 #[.pointer (some ⟨g,0,none⟩),.agg #[.int .u32 (k:Int),.int .i64 o],.int .i64 (i:Int)] w fun x w'=>Below w.heap.size w w'∧x= .agg #[.int .u32 ((k ||| 1 <<< i:Nat):Int),.int .i64 (u.exit:Int)]:=by
 obtain ⟨U1,ucap,rfl,_⟩:=hS.units.form
 have hil:i<us.length:=(List.getElem?_eq_some_iff.1 hu).1
 obtain ⟨ua,rfl⟩:=hS.units.addr (by omega)
 refine gv (f:=89) ?_
 refine rnT ?_
 refine TW.box rfl rfl rfl rfl ?_
 rintro g1 w1 f1
 refine TW.alloc rfl rfl zc156 ?_
 rintro g2 w2 f2
 refine rnT ?_
 refine TW.v V.nilCheck rfl ⟨ct,trivial⟩ (fun _=>trivial) ?_
 refine rnT ?_
 have hS2:=(hS.step f1.below).step f2.below
 obtain ⟨v1,hc1,hv1⟩:=uv_at hS2.units hu
 obtain ⟨t,x,kw,ke,ks,kr,rfl,mw,me,ms,mr,cw,ce,cs,cr⟩:=hv1
 refine TW.ld rfl (hS2.blk.fld rfl) ?_
 refine rnT ?_
 refine TW.ld rfl hc1 ?_
 refine TW.invoke0 rfl rfl (me) rfl Args.nil (ce _) ?_
 rintro y3 w3 ⟨hb3,rfl⟩
 refine rnT ?_
 refine CW.drawR mixed fun W4 hb4=> ?_
 refine RW.draw .weak 7 (by kernel_rfl) (by kernel_rfl) rfl rfl hb4 ?_
 refine rnD ?_
 have hB1:=(f1.blk.next f2.below).next hb3
 have hp:(1 <<< i:Nat)<2 ^ 32:=by rw [Nat.one_shiftLeft]; exact Nat.pow_lt_pow_right (by decide) hi
 refine DW.ld rfl (hB1.fld rfl) ?_
 refine DW.v V.move rfl ⟨ct,trivial⟩ (fun _=>trivial) ?_
 refine DW.v V.shl32 rfl ⟨ct,ct,trivial⟩ (fun _=>hi) ?_
 refine DW.v V.or32 rfl ⟨ct,ct,trivial⟩ (fun _=>⟨hk,hp⟩) ?_
 refine rnD ?_
 refine DW.build [0,1] [.tmp 24,.tmp 25] [.int .u32 ((k ||| 1 <<< i:Nat):Int),.int .i64 (u.exit:Int)] rfl rfl rfl rfl (DArgs.cons rfl ct (DArgs.cons rfl ct DArgs.nil)) (by kernel_rfl) ?_
 refine DW.nil (DW.fin [0,1,2,4,6,8,26] [(0,_,_),(1,_,_),(2,_,_),(4,_,_),(6,_,_),(8,_,_),(26,_,_)] rfl (fun w5 hb5=>KW.rk' ?_))
 refine RW.one (by kernel_rfl) (by kernel_rfl) rfl ?_
 have hB5:=(f2.blk.next hb3).next hb5
 refine TW.storeBlkF rfl rfl rfl hB5 sz156 rfl rfl rfl ?_
 rintro w6 hB6 hg6 hsz6
 refine TW.nil (KW.pick [0,1,2,4,6,8] [(0,_,_),(1,_,_),(2,_,_),(4,_,_),(6,_,_),(8,_,_)] rfl (KW.rk ?_))
 refine RW.end rfl (KW.pick [0,1,2,4,6,8] [(0,_,_),(1,_,_),(2,_,_),(4,_,_),(6,_,_),(8,_,_)] rfl (KW.then_ ?_))
 refine CW.ret ?_
 refine retCS Tryz.results89 Tryz.underlying156 (by exact sz156) rfl (hB6) (⟨?_,rfl⟩)
 have q0:=f1.below.step f2.below
 have q1:=(q0.step hb3).step hb5
 refine q1.trans ⟨hg6.os,hg6.tape,hg6.output,hg6.size,fun k hk=>hg6.block k ?_ ?_⟩
 ·have:=q1.size; omega
 ·intro h
  have:=f2.at_
  have:=f1.below.size
  simp only [Option.some.injEq] at h
  omega
theorem begI_nonneg (hn:Num d u):(0≤begI d s u)↔CanB d s u:=by
 unfold begI
 constructor
 ·intro h
  cases hd:dec (CanB d s u) with
  | true=>exact dec_iff.1 hd
  | false=>rw [hd] at h; simp at h
 ·intro h
  rw [dec_pos h,if_pos rfl]
  have:=hn.low
  unfold beg
  omega
theorem begI_rng (hn:Num d u): -1≤begI d s u∧begI d s u≤1000001:=by
 unfold begI
 have h1:=hn.low
 have h2:=hn.high
 cases hd:dec (CanB d s u) with
 | true =>
  have h:=dec_iff.1 hd
  have:=h.2
  rw [if_pos rfl]
  unfold beg
  omega
 | false=>simp
theorem fits_c {j:Nat} {v:U} (hwd:WfD d) (hS:Srch w g m d us dv uv fv) (hu:us[i]?=some u) (hv:us[j]?=some v) (hn:Num d u) (hn':Num d v) :
  Gives Tryz.prog 160 #[.pointer (some ⟨g,0,none⟩),.int .i64 (i:Int),.int .i64 (j:Int)] w fun x w'=>Below w.heap.size w w'∧x= .bool (dec (Fits d u v)):=by
 obtain ⟨U1,ucap,rfl,_⟩:=hS.units.form
 have hil:i<us.length:=(List.getElem?_eq_some_iff.1 hu).1
 obtain ⟨ua,rfl⟩:=hS.units.addr (by omega)
 have q1:=hn.low
 have q2:=hn.span
 obtain ⟨v1,hc1,hv1⟩:=uv_at hS.units hu
 obtain ⟨t,x,kw,ke,ks,kr,rfl,mw,me,ms,mr,cw,ce,cs,cr⟩:=hv1
 refine gv (f:=160) ?_
 refine rnT ?_
 refine TW.v V.nilCheck rfl ⟨ct,trivial⟩ (fun _=>trivial) ?_
 refine rnT ?_
 refine TW.ld rfl (hS.blk.fld rfl) ?_
 refine rnT ?_
 refine TW.ld rfl hc1 ?_
 refine TW.invoke0 rfl rfl (mw) rfl Args.nil (cw _) ?_
 rintro y1 w1 ⟨hb1,rfl⟩
 refine rnT ?_
 refine TW.v V.nilCheck rfl ⟨ct,trivial⟩ (fun _=>trivial) ?_
 refine rnT ?_
 have hS1:=hS.step hb1
 have hc1':=(hb1.cell (block_lt_of_cell hc1)).trans hc1
 refine TW.ld rfl (hS1.blk.fld rfl) ?_
 refine rnT ?_
 refine TW.ld rfl (hc1') ?_
 refine TW.invoke0 rfl rfl (me) rfl Args.nil (ce _) ?_
 rintro y2 w2 ⟨hb2,rfl⟩
 refine rnT ?_
 have hS2:=hS1.step hb2
 have hc2':=(hb2.cell (block_lt_of_cell hc1')).trans hc1'
 refine TW.build [1] [.tmp 34] [.int .u32 ((0:Nat):Int),.int .i64 (u.exit:Int)] rfl rfl rfl (Args.cons rfl ct Args.nil) (by kernel_rfl) ?_
 refine rnT ?_
 refine TW.v V.nilCheck rfl ⟨ct,trivial⟩ (fun _=>trivial) ?_
 refine rnT ?_
 refine TW.ld rfl (hS2.blk.fld rfl) ?_
 refine rnT ?_
 refine TW.ld rfl (hc2') ?_
 refine TW.invoke0 rfl rfl (ms) rfl Args.nil (cs _) ?_
 rintro y3 w3 ⟨hb3,rfl⟩
 refine rnT ?_
 have hso:SOK d (some u.exit,u.low+u.span):=fun y hy=>by
  cases hy
  exact hn.ok.e2
 refine TW.cl rfl (begin_c (s:=(some u.exit,u.low+u.span)) hwd (hS2.step hb3) hv hn' hso ⟨show -1≤u.low+u.span by omega,show u.low+u.span≤3000000 by omega⟩) ?_
 rintro y4 w4 ⟨hb4,rfl⟩
 refine rnT ?_
 refine rt1 rfl ⟨((hb1.step hb2).step hb3).step hb4,?_⟩
 rw [←dec_eq_decide,dec_congr (begI_nonneg hn')]
 rfl
theorem free_c (hwd:WfD d) (hS:Srch w g m d us dv uv fv) (hu:us[i]?=some u) (hn:Num d u) (hs:SOK d s) (ht:0≤s.2∧s.2≤3000000) :
  Gives Tryz.prog 225 #[.pointer (some ⟨g,0,none⟩),.agg #[.int .u32 (k:Int),.int .i64 (offI s.1)],.int .i64 s.2,.int .i64 (i:Int)] w fun x w'=>Below w.heap.size w w'∧x= .bool (dec (Free d s u)):=by
 obtain ⟨U1,ucap,rfl,_⟩:=hS.units.form
 have hil:i<us.length:=(List.getElem?_eq_some_iff.1 hu).1
 obtain ⟨ua,rfl⟩:=hS.units.addr (by omega)
 obtain ⟨v1,hc1,hv1⟩:=uv_at hS.units hu
 obtain ⟨t,x,kw,ke,ks,kr,rfl,mw,me,ms,mr,cw,ce,cs,cr⟩:=hv1
 refine gv (f:=225) ?_
 refine rnT ?_
 refine TW.box rfl rfl rfl rfl ?_
 rintro g1 w1 f1
 refine rnT ?_
 refine TW.v V.nilCheck rfl ⟨ct,trivial⟩ (fun _=>trivial) ?_
 refine rnT ?_
 have hS1:=hS.step f1.below
 have hc1':=(f1.below.cell (block_lt_of_cell hc1)).trans hc1
 refine TW.ld rfl (hS1.blk.fld rfl) ?_
 refine rnT ?_
 refine TW.ld rfl (hc1') ?_
 refine TW.invoke0 rfl rfl (me) rfl Args.nil (ce _) ?_
 rintro y2 w2 ⟨hb2,rfl⟩
 refine rnT ?_
 have hS2:=hS1.step hb2
 have hc2:=(hb2.cell (block_lt_of_cell hc1')).trans hc1'
 have hB2:=f1.blk.next hb2
 refine TW.ld rfl (hB2.fld rfl) ?_
 refine rnT ?_
 refine TW.ld rfl (hB2.fld rfl) ?_
 refine rnT ?_
 refine TW.v V.nilCheck rfl ⟨id,trivial⟩ (fun _=>trivial) ?_
 refine rnT ?_
 refine TW.ld rfl (hS2.blk.fld rfl) ?_
 refine rnT ?_
 refine TW.ld rfl hc2 ?_
 refine TW.invokeF rfl rfl (ms) rfl id Args.nil (fun _=>cs _) ?_
 rintro w3 hb3
 refine rnT ?_
 have hB3:=hB2.next hb3
 refine TW.ldS rfl (fun _ _ h=>hB3.fld h) ?_
 refine rnT ?_
 refine TW.callF (cap:= []) rfl rfl en88 rfl ct (Args.cons rfl id (Args.cons rfl id (Args.cons rfl id (Args.cons rfl id Args.nil)))) (fun _=>begin_c (k:=k) hwd (hS2.step hb3) hu hn hs ⟨by omega,ht.2⟩) ?_
 rintro w4 hb4
 refine rnT ?_
 refine rt1 rfl ⟨((f1.below.step hb2).step hb3).step hb4,?_⟩
 rw [show dec (Free d s u)=(decide ((u.entry:Int)=offI s.1)&&decide ((u.exit:Int)=offI s.1)&&decide (u.span=0)&&decide (begI d s u=s.2)) from ?_]
 cases hf:(decide ((u.entry:Int)=offI s.1)&&decide ((u.exit:Int)=offI s.1)&&decide (u.span=0)&&decide (begI d s u=s.2)) with
 | true =>
  simp only [Bool.and_eq_true,decide_eq_true_eq] at hf
  obtain ⟨⟨⟨h1,h2⟩,h3⟩,h4⟩:=hf
  have hcan:CanB d s u:=(begI_nonneg hn).1 (by omega)
  refine dec_pos ⟨?_,?_,h3,hcan,?_⟩
  ·cases ho:s.1 with
   | none=>rw [ho] at h1; simp only [offI] at h1; omega
   | some y=>rw [ho] at h1; simp only [offI] at h1; congr 1; omega
  ·omega
  ·unfold begI at h4
   rwa [dec_pos hcan,if_pos rfl] at h4
 | false =>
  refine dec_neg fun ⟨h1,h2,h3,h4,h5⟩=> ?_
  have hb:begI d s u=s.2:=by unfold begI; rw [dec_pos h4,if_pos rfl,h5]
  rw [h1] at hf
  simp [offI,h2,h3,hb] at hf
structure SrchF (w:World) (g m:Nat) (d:Dist) (us:List U) (dv uv:Value) (gf:Nat) (F:List Nat):Prop where
 s:Srch w g m d us dv uv (.slice (some ⟨gf,0,none⟩) F.length F.length)
 len:F.length=us.length
 fst:Blk w gf 154 (F.map fun x:Nat=>Value.int .u32 (x:Int))
 small: ∀x∈F,x<2 ^ 32
theorem SrchF.step {w w':World} {g m:Nat} {d:Dist} {us:List U} {dv uv:Value} {gf:Nat} {F:List Nat} (h:SrchF w g m d us dv uv gf F) (hb:Below w.heap.size w w'):SrchF w' g m d us dv uv gf F :=
 ⟨h.s.step hb,h.len,h.fst.next hb,h.small⟩
theorem kept_but {w':World} (h:But k w w') (hk:g≤k):Kept (fun b=>b<g) w w':=Kept.of_blocks fun b hb hlt=>h.block b hlt (fun e=>by cases e; omega)
def MaskOK (d:Dist) (us:List U) (F:List Nat) (P:Nat→Nat→Prop):Prop:= ∀(a:Nat) (u:U),us[a]?=some u→ ∀b,((F.getD a 0).testBit b=true↔P a b∧a≠b∧ ∃v,us[b]?=some v∧ ¬Fits d u v)
theorem MaskOK.congr {F:List Nat} {P P':Nat→Nat→Prop} (h:MaskOK d us F P) (hp: ∀(a b:Nat) (u v:U),us[a]?=some u→us[b]?=some v→a≠b→ ¬Fits d u v→(P a b↔P' a b)):MaskOK d us F P':=by
 intro a u hu b
 rw [h a u hu b]
 constructor
 ·rintro ⟨h1,h2,v,h3,h4⟩
  exact ⟨(hp a b u v hu h3 h2 h4).1 h1,h2,v,h3,h4⟩
 ·rintro ⟨h1,h2,v,h3,h4⟩
  exact ⟨(hp a b u v hu h3 h2 h4).2 h1,h2,v,h3,h4⟩
theorem MaskOK.set {d:Dist} {us:List U} {F:List Nat} {P:Nat→Nat→Prop} (h:MaskOK d us F P) (hl:F.length=us.length) {x y:Nat} {u v:U} (hx:us[x]?=some u) (hy:us[y]?=some v) (hxy:x≠y) (hf: ¬Fits d u v) :
  MaskOK d us (F.set x (F.getD x 0 ||| 1 <<< y)) fun a b=>P a b∨(a=x∧b=y):=by
 intro a u' hu b
 have hxl:x<F.length:=by rw [hl]; exact (List.getElem?_eq_some_iff.1 hx).1
 by_cases hax:a=x
 ·subst hax
  rw [hx] at hu; cases hu
  have e:(F.set a (F.getD a 0 ||| 1 <<< y)).getD a 0=F.getD a 0 ||| 1 <<< y:=by simp [List.getD_eq_getElem?_getD,hxl]
  rw [e,Nat.testBit_or,Nat.one_shiftLeft,Nat.testBit_two_pow,Bool.or_eq_true,h a u hx b,decide_eq_true_eq]
  constructor
  ·rintro (⟨h1,h2,h3⟩|rfl)
   ·exact ⟨.inl h1,h2,h3⟩
   ·exact ⟨.inr ⟨rfl,rfl⟩,hxy,v,hy,hf⟩
  ·rintro ⟨h1|⟨_,rfl⟩,h2,h3⟩
   ·exact .inl ⟨h1,h2,h3⟩
   ·exact .inr rfl
 ·have e:(F.set x (F.getD x 0 ||| 1 <<< y)).getD a 0=F.getD a 0:=by simp [List.getD_eq_getElem?_getD,List.getElem?_set_ne (Ne.symm hax)]
  rw [e,h a u' hu b]
  constructor
  ·rintro ⟨h1,h2⟩; exact ⟨.inl h1,h2⟩
  ·rintro ⟨h1|⟨h1,_⟩,h2⟩
   ·exact ⟨h1,h2⟩
   ·exact absurd h1 hax
def Seen (j i:Nat) (a b:Nat):Prop:=(a<j∧b<j)∨(b=j∧a<i)∨(a=j∧b<i)
theorem precede_c (hwd:WfD d) (hS:Srch w g m d us dv uv fv) (hn: ∀u∈us,Num d u) (h16:us.length≤16) :
  Gives Tryz.prog 85 #[.pointer (some ⟨g,0,none⟩)] w fun x w'=>But g w w'∧((x= .bool false∧ ∃(i j:Nat) (u v:U),us[i]?=some u∧us[j]?=some v∧i≠j∧ ¬Fits d u v∧ ¬Fits d v u)∨(x= .bool true∧ ∃gf F,SrchF w' g m d us dv uv gf F∧FirstOK d us (fun i=>F.getD i 0)∧ ∀i j,i<us.length→(F.getD i 0).testBit j=true→j<us.length)):=by
 obtain ⟨U1,ucap,rfl,_⟩:=hS.units.form
 refine gv (f:=85) ?_
 refine rnT ?_
 refine TW.v V.nilCheck rfl ⟨ct,trivial⟩ (fun _=>trivial) ?_
 refine rnT ?_
 refine TW.ld rfl (hS.blk.fld rfl) ?_
 refine rnT ?_
 refine TW.makeSlice rfl rfl (zero1_of go150 ze154 rfl) rfl rfl (by omega) (by omega) ?_
 rintro g1 w1 f1
 refine TW.v V.nilCheck rfl ⟨ct,trivial⟩ (fun _=>trivial) ?_
 refine rnT ?_
 have hB1:=hS.blk.next f1.below
 refine TW.storeFld rfl sz150 rfl rfl hB1 (by show 2<3; decide) rfl ?_
 rintro w2 hB2 hbut2 hsz2
 refine rnT ?_
 refine TW.v V.nilCheck rfl ⟨ct,trivial⟩ (fun _=>trivial) ?_
 refine rnT ?_
 have hgf:g≠g1:=fun e=>by have:=f1.at_; have:=hS.blk.lt; omega
 have hBut:But g w w2:=(But.of_below f1.below).trans hbut2
 have hgw:w.heap.size≤g1:=Nat.le_of_eq f1.at_.symm
 have hglt:=hS.blk.lt
 have hSF:SrchF w2 g m d us dv (.slice U1 us.length ucap) g1 (List.replicate us.length 0):=by
  refine ⟨⟨?_,(hS.dist.below f1.below).mono (kept_but hbut2 (Nat.le_refl _)),(hS.units.below f1.below).mono (kept_but hbut2 (Nat.le_refl _))⟩,by simp,?_,fun x hx=>by rw [List.eq_of_mem_replicate hx]; decide⟩
  ·simpa using hB2
  ·have:=hbut2.blk f1.blk (Ne.symm hgf)
   simpa using this
 have hM:MaskOK d us (List.replicate us.length 0) (Seen 0 0):=by
  intro a u hu b
  have hal:=(List.getElem?_eq_some_iff.1 hu).1
  have e:(List.replicate us.length 0).getD a 0=0:=by simp [List.getD_eq_getElem?_getD,List.getElem?_replicate,hal]
  rw [e,Nat.zero_testBit]
  constructor
  ·intro h
   cases h
  ·rintro ⟨h,_⟩
   unfold Seen at h
   omega
 refine TW.ld rfl (hSF.s.blk.fld rfl) ?_
 refine rnT ?_
 refine CW.pk [0,2,20,21] rfl ?_
 refine CW.lp [0,20] (fun jF:Nat×List Nat=> [(21,none,.int .i64 (jF.1:Int))])
  (fun jF W=>jF.1≤us.length∧But g w W∧SrchF W g m d us dv (.slice U1 us.length ucap) g1 jF.2∧MaskOK d us jF.2 (Seen jF.1 0)) (fun jF=>us.length-jF.1) (0,List.replicate us.length 0) ⟨Nat.zero_le _,hBut,hSF,hM⟩ ?_
 rintro ⟨j,F⟩ W ⟨hj,hBW,hFW,hMW⟩
 dsimp only at hj hBW hFW hMW
 refine rnT ?_
 refine CW.condP rfl (fun hlt=> ?_) (fun hge=> ?_)
 ·have hjl:j<us.length:=by omega
  obtain ⟨v,hv⟩: ∃v,us[j]?=some v:=⟨us[j],List.getElem?_eq_getElem hjl⟩
  refine rnT ?_
  refine CW.lp [0,3,20,21,24] (fun iF:Nat×List Nat=> [(25,none,.int .i64 (iF.1:Int))])
   (fun iF W=>iF.1≤j∧But g w W∧SrchF W g m d us dv (.slice U1 us.length ucap) g1 iF.2∧MaskOK d us iF.2 (Seen j iF.1)) (fun iF=>j-iF.1) (0,F) ⟨Nat.zero_le _,hBW,hFW,hMW⟩ ?_
  rintro ⟨i,F'⟩ W' ⟨hi,hBW',hFW',hMW'⟩
  dsimp only at hi hBW' hFW' hMW'
  refine rnT ?_
  refine CW.condP rfl (fun hlt2=> ?_) (fun hge2=> ?_)
  ·have hil:i<j:=by omega
   obtain ⟨u,hu⟩: ∃u,us[i]?=some u:=⟨us[i]'(by omega),List.getElem?_eq_getElem (by omega)⟩
   have nu:=hn u (List.mem_of_getElem? hu)
   have nv:=hn v (List.mem_of_getElem? hv)
   refine rnT ?_
   refine TW.cl rfl (fits_c hwd hFW'.s hu hv nu nv) ?_
   rintro y3 w3 ⟨hb3,rfl⟩
   refine rnT ?_
   refine TW.cl rfl (fits_c hwd (hFW'.s.step hb3) hv hu nv nu) ?_
   rintro y4 w4 ⟨hb4,rfl⟩
   have hF4:=(hFW'.step hb3).step hb4
   have hB4:=(hBW'.step hb3).step hb4
   refine rnT ?_
   refine CW.pk [0,3,4,5,6,20,21,24,25,36] rfl ?_
   refine CW.cond rfl (fun hnone=> ?_) (fun hsome=> ?_)
   ·refine rnT ?_
    refine rt1 rfl ⟨hB4,.inl ⟨rfl,i,j,u,v,hu,hv,by omega,?_,?_⟩⟩
    ·intro h
     simp [dec_pos h] at hnone
    ·intro h
     simp [dec_pos h] at hnone
   refine rnT ?_
   refine CW.cond rfl (fun hnf=> ?_) (fun hf=> ?_)
   ·skip
    have hnf1: ¬Fits d u v:=fun h=>by simp [dec_pos h] at hnf
    have hbk:Fits d v u:=by
     cases hq:dec (Fits d v u) with
     | true=>exact dec_iff.1 hq
     | false=>simp [hq,dec_neg hnf1] at hsome
    have hxl:i<F'.length:=by rw [hF4.len]; omega
    have hcF:w4.cell? (Addr.add ⟨g1,0,none⟩ ((i:Int).toNat*1))=some (.int .u32 ((F'.getD i 0:Nat):Int)):=hF4.fst.fld (by simp [List.getD_eq_getElem?_getD,hxl])
    have hsm:F'.getD i 0<2 ^ 32:=hF4.small _ (by rw [List.getD_eq_getElem?_getD,List.getElem?_eq_getElem hxl]; exact List.getElem_mem hxl)
    have hp:(1 <<< j:Nat)<2 ^ 32:=by rw [Nat.one_shiftLeft]; exact Nat.pow_lt_pow_right (by decide) (by omega)
    refine CW.drawR mixed fun W5 hb5=> ?_
    refine RW.draw .weak 11 (by kernel_rfl) (by kernel_rfl) rfl rfl hb5 ?_
    refine rnD ?_
    refine DW.v V.nilCheck rfl ⟨ct,trivial⟩ (fun _=>trivial) ?_
    refine rnD ?_
    refine DW.ld rfl (hF4.s.blk.fld rfl) ?_
    refine rnD ?_
    refine DW.ld rfl hcF ?_
    refine DW.v V.move rfl ⟨ct,trivial⟩ (fun _=>trivial) ?_
    refine DW.v V.shl32 rfl ⟨ct,ct,trivial⟩ (fun _=>by omega) ?_
    refine DW.v V.or32 rfl ⟨ct,ct,trivial⟩ (fun _=>⟨hsm,hp⟩) ?_
    refine rnD ?_
    refine DW.nil (DW.fin [0,3,4,5,6,20,21,24,25,55,56] [(0,_,_),(3,_,_),(4,_,_),(5,_,_),(6,_,_),(20,_,_),(21,_,_),(24,_,_),(25,_,_),(55,_,_),(56,_,_)] rfl (fun w6 hb6=>KW.rk' ?_))
    refine RW.one (by kernel_rfl) (by kernel_rfl) rfl ?_
    have hF6:=hF4.step hb6
    refine TW.storeFld rfl sz154 rfl rfl hF6.fst (by simp; omega) rfl ?_
    rintro w7 hB7 hbut7 hsz7
    refine TW.nil (KW.pick [0,3,4,5,6,20,21,24,25] [(0,_,_),(3,_,_),(4,_,_),(5,_,_),(6,_,_),(20,_,_),(21,_,_),(24,_,_),(25,_,_)] rfl (KW.rk ?_))
    refine RW.end rfl (KW.pick [0,3,4,5,6,20,21,24,25] [(0,_,_),(3,_,_),(4,_,_),(5,_,_),(6,_,_),(20,_,_),(21,_,_),(24,_,_),(25,_,_)] rfl (KW.blockN (KW.blockN (KW.then_ ?_))))
    refine rnT ?_
    have hF7:SrchF w7 g m d us dv (.slice U1 us.length ucap) g1 (F'.set i (F'.getD i 0 ||| 1 <<< j)):=by
     refine ⟨⟨?_,hF6.s.dist.mono (kept_but hbut7 (by omega)),hF6.s.units.mono (kept_but hbut7 (by omega))⟩,by simp [hF6.len],?_,fun z hz=> ?_⟩
     ·have:=hbut7.blk hF6.s.blk hgf
      simpa using this
     ·simpa [List.map_set] using hB7
     ·rcases List.mem_or_eq_of_mem_set hz with h|h
      ·exact hF6.small z h
      ·rw [h]; exact Nat.or_lt_two_pow hsm hp
    have hB7':But g w w7:=⟨hbut7.os.trans (hB4.step hb6).os,hbut7.tape.trans (hB4.step hb6).tape,hbut7.output.trans (hB4.step hb6).output,Nat.le_trans (hB4.step hb6).size hbut7.size,fun k hk hne=>(hbut7.block k (Nat.lt_of_lt_of_le hk (hB4.step hb6).size) (fun e=>by cases e; omega)).trans ((hB4.step hb6).block k hk hne)⟩
    refine KW.rd (i+1,F'.set i (F'.getD i 0 ||| 1 <<< j)) ⟨by show i+1≤j; omega,hB7',hF7,?_⟩
    refine (hMW'.set hF4.len hu hv (by omega) hnf1).congr fun a b u' v' ha hb hab hnf'=> ?_
    unfold Seen
    constructor
    ·rintro (h|⟨rfl,rfl⟩)
     ·dsimp only; omega
     ·dsimp only; omega
    ·intro h
     dsimp only at h
     by_cases hab':a=j∧b=i
     ·obtain ⟨rfl,rfl⟩:=hab'
      rw [hv] at ha; cases ha
      rw [hu] at hb; cases hb
      exact absurd hbk hnf'
     ·by_cases h2:a=i∧b=j
      ·exact .inr h2
      ·left; omega
   have hfo:Fits d u v:=by
    cases hq:dec (Fits d u v) with
    | true=>exact dec_iff.1 hq
    | false=>simp [hq] at hf
   refine rnT ?_
   refine CW.cond rfl (fun hnb=> ?_) (fun hbb=> ?_)
   ·skip
    have hnb1: ¬Fits d v u:=fun h=>by simp [dec_pos h] at hnb
    have hxl:j<F'.length:=by rw [hF4.len]; omega
    have hcF:w4.cell? (Addr.add ⟨g1,0,none⟩ ((j:Int).toNat*1))=some (.int .u32 ((F'.getD j 0:Nat):Int)):=hF4.fst.fld (by simp [List.getD_eq_getElem?_getD,hxl])
    have hsm:F'.getD j 0<2 ^ 32:=hF4.small _ (by rw [List.getD_eq_getElem?_getD,List.getElem?_eq_getElem hxl]; exact List.getElem_mem hxl)
    have hp:(1 <<< i:Nat)<2 ^ 32:=by rw [Nat.one_shiftLeft]; exact Nat.pow_lt_pow_right (by decide) (by omega)
    refine CW.drawR mixed fun W5 hb5=> ?_
    refine RW.draw .weak 11 (by kernel_rfl) (by kernel_rfl) rfl rfl hb5 ?_
    refine rnD ?_
    refine DW.v V.nilCheck rfl ⟨ct,trivial⟩ (fun _=>trivial) ?_
    refine rnD ?_
    refine DW.ld rfl (hF4.s.blk.fld rfl) ?_
    refine rnD ?_
    refine DW.ld rfl hcF ?_
    refine DW.v V.move rfl ⟨ct,trivial⟩ (fun _=>trivial) ?_
    refine DW.v V.shl32 rfl ⟨ct,ct,trivial⟩ (fun _=>by omega) ?_
    refine DW.v V.or32 rfl ⟨ct,ct,trivial⟩ (fun _=>⟨hsm,hp⟩) ?_
    refine rnD ?_
    refine DW.nil (DW.fin [0,3,4,5,6,20,21,24,25,69,70] [(0,_,_),(3,_,_),(4,_,_),(5,_,_),(6,_,_),(20,_,_),(21,_,_),(24,_,_),(25,_,_),(69,_,_),(70,_,_)] rfl (fun w6 hb6=>KW.rk' ?_))
    refine RW.one (by kernel_rfl) (by kernel_rfl) rfl ?_
    have hF6:=hF4.step hb6
    refine TW.storeFld rfl sz154 rfl rfl hF6.fst (by simp; omega) rfl ?_
    rintro w7 hB7 hbut7 hsz7
    refine TW.nil (KW.pick [0,3,4,5,6,20,21,24,25] [(0,_,_),(3,_,_),(4,_,_),(5,_,_),(6,_,_),(20,_,_),(21,_,_),(24,_,_),(25,_,_)] rfl (KW.rk ?_))
    refine RW.end rfl (KW.pick [0,3,4,5,6,20,21,24,25] [(0,_,_),(3,_,_),(4,_,_),(5,_,_),(6,_,_),(20,_,_),(21,_,_),(24,_,_),(25,_,_)] rfl (KW.blockN (KW.blockN (KW.then_ ?_))))
    refine rnT ?_
    have hF7:SrchF w7 g m d us dv (.slice U1 us.length ucap) g1 (F'.set j (F'.getD j 0 ||| 1 <<< i)):=by
     refine ⟨⟨?_,hF6.s.dist.mono (kept_but hbut7 (by omega)),hF6.s.units.mono (kept_but hbut7 (by omega))⟩,by simp [hF6.len],?_,fun z hz=> ?_⟩
     ·have:=hbut7.blk hF6.s.blk hgf
      simpa using this
     ·simpa [List.map_set] using hB7
     ·rcases List.mem_or_eq_of_mem_set hz with h|h
      ·exact hF6.small z h
      ·rw [h]; exact Nat.or_lt_two_pow hsm hp
    have hB7':But g w w7:=⟨hbut7.os.trans (hB4.step hb6).os,hbut7.tape.trans (hB4.step hb6).tape,hbut7.output.trans (hB4.step hb6).output,Nat.le_trans (hB4.step hb6).size hbut7.size,fun k hk hne=>(hbut7.block k (Nat.lt_of_lt_of_le hk (hB4.step hb6).size) (fun e=>by cases e; omega)).trans ((hB4.step hb6).block k hk hne)⟩
    refine KW.rd (i+1,F'.set j (F'.getD j 0 ||| 1 <<< i)) ⟨by show i+1≤j; omega,hB7',hF7,?_⟩
    refine (hMW'.set hF4.len hv hu (by omega) hnb1).congr fun a b u' v' ha hb hab hnf'=> ?_
    unfold Seen
    constructor
    ·rintro (h|⟨rfl,rfl⟩)
     ·dsimp only; omega
     ·dsimp only; omega
    ·intro h
     dsimp only at h
     by_cases hab':a=i∧b=j
     ·obtain ⟨rfl,rfl⟩:=hab'
      rw [hu] at ha; cases ha
      rw [hv] at hb; cases hb
      exact absurd hfo hnf'
     ·by_cases h2:a=j∧b=i
      ·exact .inr h2
      ·left; omega
   have hbk:Fits d v u:=by
    cases hq:dec (Fits d v u) with
    | true=>exact dec_iff.1 hq
    | false=>simp [hq] at hbb
   refine rnT ?_
   refine KW.rd (i+1,F') ⟨by show i+1≤j; omega,hB4,hF4,?_⟩
   refine hMW'.congr fun a b u' v' ha hb hab hnf'=> ?_
   unfold Seen
   constructor
   ·intro h; dsimp only; omega
   ·intro h
    dsimp only at h
    by_cases h1:a=i∧b=j
    ·obtain ⟨rfl,rfl⟩:=h1
     rw [hu] at ha; cases ha
     rw [hv] at hb; cases hb
     exact absurd hfo hnf'
    ·by_cases h2:a=j∧b=i
     ·obtain ⟨rfl,rfl⟩:=h2
      rw [hv] at ha; cases ha
      rw [hu] at hb; cases hb
      exact absurd hbk hnf'
     ·omega
  ·refine rnT ?_
   refine KW.rd (j+1,F') ⟨by show j+1≤us.length; omega,hBW',hFW',?_⟩
   refine hMW'.congr fun a b u' v' ha hb hab hnf'=> ?_
   unfold Seen
   dsimp only
   omega
 ·refine rnT ?_
  refine rt1 rfl (⟨hBW,.inr ⟨rfl,g1,F,hFW,fun i j u v hi hj=> ?_,fun i j hi hb=>by obtain ⟨_,_,v,hv,_⟩:=(hMW i us[i] (List.getElem?_eq_getElem hi) j).1 hb; exact (List.getElem?_eq_some_iff.1 hv).1⟩⟩)
  rw [hMW i u hi j]
  have h1:=(List.getElem?_eq_some_iff.1 hi).1
  have h2:=(List.getElem?_eq_some_iff.1 hj).1
  constructor
  ·rintro ⟨_,q1,v',q2,q3⟩
   rw [hj] at q2; cases q2
   exact ⟨q1,q3⟩
  ·rintro ⟨q1,q2⟩
   exact ⟨.inl ⟨by omega,by omega⟩,q1,v,hj,q2⟩
end Go.Proofs.YtobaafdejnimkaaGreatDoor
namespace Go.Ord
open Go.PF
variable {d:Dist}
def lstTo (F:List Nat) (k c:Nat):List Nat:=(List.range c).filter fun i=> !k.testBit i&&decide (andN (F.getD i 0) k=0)
noncomputable def freeAt (d:Dist) (us:List U) (s:St) (i:Nat):Bool:=dec (∃u,us[i]?=some u∧Free d s u)
noncomputable def choOf (d:Dist) (us:List U) (s:St) (l:List Nat):List Nat:=match l.find? (freeAt d us s) with
 | some i=> [i]
 | none=>l
def Cho (d:Dist) (us:List U) (F:List Nat) (k:Nat) (s:St) (L:List Nat):Prop :=
 ((∃(i:Nat) (u:U),us[i]?=some u∧k.testBit i=false∧ ¬CanB d s u)∧L= []) ∨
 ((∀(i:Nat) (u:U),us[i]?=some u→k.testBit i=false→CanB d s u)∧L=choOf d us s (lstTo F k us.length))
theorem lstTo_succ (F:List Nat) (k c:Nat):lstTo F k (c+1)=lstTo F k c++if (!k.testBit c&&decide (andN (F.getD c 0) k=0))=true then [c] else []:=by
 unfold lstTo
 rw [List.range_succ,List.filter_append]
 congr 1
 by_cases h:(!k.testBit c&&decide (andN (F.getD c 0) k=0))=true
 ·rw [if_pos h]
  simp only [List.filter,h]
 ·rw [if_neg h]
  have h':(!k.testBit c&&decide (andN (F.getD c 0) k=0))=false:=by simpa using h
  simp only [List.filter,h']
theorem mem_lstTo {F:List Nat} {k c i:Nat}:i∈lstTo F k c↔i<c∧k.testBit i=false∧andN (F.getD i 0) k=0:=by
 unfold lstTo
 rw [List.mem_filter,List.mem_range]
 simp
theorem Cho.mem {us:List U} {F:List Nat} {k:Nat} {s:St} {L:List Nat} (h:Cho d us F k s L) {i:Nat} (hi:i∈L): ∃u,us[i]?=some u∧k.testBit i=false∧CanB d s u:=by
 rcases h with ⟨_,rfl⟩|⟨hc,rfl⟩
 ·cases hi
 ·have hm:i∈lstTo F k us.length:=by
   unfold choOf at hi
   split at hi
   ·rename_i y hy
    rw [List.mem_singleton] at hi
    subst hi
    exact List.mem_of_find?_eq_some hy
   ·exact hi
  obtain ⟨h1,h2,_⟩:=mem_lstTo.1 hm
  exact ⟨us[i],List.getElem?_eq_getElem h1,h2,hc i _ (List.getElem?_eq_getElem h1) h2⟩
def Way (d:Dist) (us:List U) (k:Nat) (s:St) (c:Nat):Prop:= ∃T:List U,T.length=c∧Run d (none,0) T∧fin d (none,0) T=s∧(T++left us k).Perm us
theorem Way.zero (us:List U):Way d us 0 (none,0) 0:=⟨[],rfl,trivial,rfl,by rw [left_zero]; exact List.Perm.refl _⟩
theorem Way.step {us:List U} {k c i:Nat} {s:St} {u:U} (h:Way d us k s c) (hu:us[i]?=some u) (hk:k.testBit i=false) (hc:CanB d s u):Way d us (k ||| 1 <<< i) (nxt d s u) (c+1):=by
 obtain ⟨T,h1,h2,h3,h4⟩:=h
 refine ⟨T++ [u],by simp [h1],?_,?_,?_⟩
 ·rw [Run.append,h3]; exact ⟨h2,hc,trivial⟩
 ·rw [fin_append,h3]; rfl
 ·rw [List.append_assoc]
  exact (List.Perm.append_left T (left_cons hk hu).symm).trans h4
theorem Way.feas {us:List U} {k:Nat} {s:St} (h:Way d us k s us.length):Feas d (none,0) us:=by
 obtain ⟨T,h1,h2,h3,h4⟩:=h
 have hl:=h4.length_eq
 rw [List.length_append,h1] at hl
 have h0:left us k= []:=List.eq_nil_of_length_eq_zero (by omega)
 rw [h0,List.append_nil] at h4
 exact ⟨T,h4,h2⟩
theorem Way.sok {us:List U} {k c:Nat} {s:St} (hu: ∀u∈us,UOK d u) (h:Way d us k s c):SOK d s:=by
 obtain ⟨T,h1,h2,h3,h4⟩:=h
 rw [←h3]
 refine sok_fin (fun x hx=>by cases hx) fun u hT=>hu u (h4.mem_iff.1 (List.mem_append_left _ hT))
end Go.Ord
namespace Go.Proofs.YtobaafdejnimkaaGreatDoor
open Go.PF Go.RowKit Go.Ord
attribute [local irreducible] TW CW KW DW
variable {w:World}
def Nums (w:World) (b:Nat) (v:Value) (L:List Nat):Prop:= ∃n,n=L.length∧OwnS w 3 1 v n (L.map fun i:Nat=>Value.int .i64 (i:Int))∧ ∀g,v.ownBlock=some g→b≤g
theorem Nums.below {w w':World} {b:Nat} {v:Value} {L:List Nat} (h:Nums w b v L) (hb:Below w.heap.size w w'):Nums w' b v L:=by
 obtain ⟨n,h1,h2,h3⟩:=h
 exact ⟨n,h1,h2.below hb,h3⟩
theorem Nums.nil (w:World) (b:Nat):Nums w b (.slice none 0 0) []:=⟨0,rfl,OwnS.nil _ _ _,fun g h=>by simp [Value.ownBlock] at h⟩
theorem and_bit (k c:Nat):((k &&& 1 <<< c:Nat):Int)≠0↔k.testBit c=true:=by
 have e:k &&& 1 <<< c=2 ^ c*(k.testBit c).toNat:=by
  apply Nat.eq_of_testBit_eq
  intro i
  rw [Nat.testBit_and,Nat.one_shiftLeft,Nat.testBit_two_pow]
  by_cases h:c=i
  ·subst h
   cases hb:k.testBit c<;>simp
  ·cases hb:k.testBit c with
   | false=>simp [h]
   | true=>simp [h,Nat.testBit_two_pow]
 rw [e]
 cases hb:k.testBit c with
 | false=>simp
 | true =>
  have:=Nat.two_pow_pos c
  simp only [Bool.toNat_true,Nat.mul_one,iff_true]
  intro h
  have h':(2 ^ c:Nat)=0:=by exact_mod_cast h
  omega
def frI:Option Nat→Int
 | none=> -1
 | some i=>i
theorem choices_c {g m k gf:Nat} {d:Dist} {us:List U} {dv uv:Value} {F:List Nat} {s:St} (hwd:WfD d) (hS:SrchF w g m d us dv uv gf F) (hn: ∀u∈us,Num d u) (h16:us.length≤16) (hk:k<2 ^ 32) (hs:SOK d s) (ht:0≤s.2∧s.2≤3000000) :
  Gives Tryz.prog 161 #[.pointer (some ⟨g,0,none⟩),.agg #[.int .u32 (k:Int),.int .i64 (offI s.1)],.int .i64 s.2] w fun x w'=>Below w.heap.size w w'∧ ∃L,Nums w' w.heap.size x L∧Cho d us F k s L:=by
 obtain ⟨U1,ucap,rfl,_⟩:=hS.s.units.form
 refine gv (f:=161) ?_
 refine rnT ?_
 refine TW.box rfl rfl rfl rfl ?_
 rintro g1 w1 f1
 refine rnT ?_
 refine TW.v V.nilCheck rfl ⟨ct,trivial⟩ (fun _=>trivial) ?_
 refine rnT ?_
 refine TW.ld rfl ((hS.step f1.below).s.blk.fld rfl) ?_
 refine rnT ?_
 refine CW.lp [0,2,4,14] (fun x:Nat×Value×Int=> [(7,none,x.2.1),(8,none,.int .i64 x.2.2),(15,none,.int .i64 (x.1:Int))])
  (fun x W=>x.1≤us.length∧Below w1.heap.size w1 W∧Nums W w1.heap.size x.2.1 (lstTo F k x.1)∧x.2.2=frI ((lstTo F k x.1).find? (freeAt d us s))∧ ∀(i:Nat) (u:U),i<x.1→us[i]?=some u→k.testBit i=false→CanB d s u) (fun x=>us.length-x.1) (0,.slice none 0 0,-1) ⟨Nat.zero_le _,Below.refl _ _,Nums.nil _ _,rfl,fun i u hi=>by omega⟩ ?_
 rintro ⟨c,lv,fr⟩ W ⟨hc,hB,hL,hfr,hcan⟩
 dsimp only at hc hB hL hfr hcan
 refine rnT ?_
 refine CW.condP rfl (fun hlt=> ?_) (fun hge=> ?_)
 ·have hcl:c<us.length:=by omega
  have hBk:=f1.blk.next hB
  have hpc:(1 <<< c:Nat)<2 ^ 32:=by rw [Nat.one_shiftLeft]; exact Nat.pow_lt_pow_right (by decide) (by omega)
  refine rnT ?_
  refine CW.draw mixed (by kernel_rfl) ?_
  refine rnD ?_
  refine DW.ld rfl (hBk.fld rfl) ?_
  refine DW.v V.move rfl ⟨ct,trivial⟩ (fun _=>trivial) ?_
  refine DW.v V.shl32 rfl ⟨ct,ct,trivial⟩ (fun _=>by omega) ?_
  refine DW.v V.and32 rfl ⟨ct,ct,trivial⟩ (fun _=>⟨hk,hpc⟩) ?_
  refine rnD ?_
  refine DW.fi [0,2,4,7,8,9,14,15,23] rfl fun w2 hb2=> ?_
  refine KW.then_ ?_
  obtain ⟨u,hu⟩: ∃u,us[c]?=some u:=⟨us[c],List.getElem?_eq_getElem hcl⟩
  have nu:=hn u (List.mem_of_getElem? hu)
  have hB2:=hB.step hb2
  refine CW.condP rfl (fun hbit=> ?_) (fun hnbit=> ?_)
  ·refine rnT ?_
   have hbt:=(and_bit k c).1 hbit
   have hls:lstTo F k (c+1)=lstTo F k c:=by rw [lstTo_succ,hbt]; simp
   refine KW.rd (c+1,lv,fr) ⟨by show c+1≤us.length; omega,hB2,?_,?_,fun i u' hi hu' hb=> ?_⟩
   ·show Nums _ _ lv (lstTo F k (c+1))
    rw [hls]
    exact hL.below hb2
   ·show fr=frI ((lstTo F k (c+1)).find? _)
    rw [hls]
    exact hfr
   ·have hi:i<c+1:=hi
    rcases Nat.lt_or_ge i c with h|h
    ·exact hcan i u' h hu' hb
    ·obtain rfl:i=c:=by omega
     rw [hbt] at hb; cases hb
  have hnb:k.testBit c=false:=by
   cases hq:k.testBit c with
   | false=>rfl
   | true=>exact absurd ((and_bit k c).2 hq) hnbit
  have hS2:=(hS.step f1.below).step hB2
  have hBk2:=hBk.next hb2
  refine rnT ?_
  refine TW.ldS rfl (fun _ _ h=>hBk2.fld h) ?_
  refine rnT ?_
  refine TW.cl rfl (begin_c (k:=k) hwd hS2.s hu nu hs ⟨by omega,ht.2⟩) ?_
  rintro y3 w3 ⟨hb3,rfl⟩
  refine rnT ?_
  refine CW.condP rfl (fun hneg=> ?_) (fun hpos=> ?_)
  ·refine rnT ?_
   refine rt1 rfl ⟨f1.below.step (hB2.step hb3),[],Nums.nil _ _,.inl ⟨⟨c,u,hu,hnb,fun h=> ?_⟩,rfl⟩⟩
   have:=(begI_nonneg (s:=s) nu).2 h
   omega
  have hcu:CanB d s u:=(begI_nonneg nu).1 (by omega)
  have hS3:=hS2.step hb3
  have hB3:=hB2.step hb3
  have hBk3:=hBk2.next hb3
  have hcF:c<F.length:=by rw [hS.len]; exact hcl
  have hc3:w3.cell? (Addr.add ⟨gf,0,none⟩ ((c:Int).toNat*1))=some (.int .u32 ((F.getD c 0:Nat):Int)):=hS3.fst.fld (by simp [List.getD_eq_getElem?_getD,hcF])
  refine rnT ?_
  refine CW.draw mixed (by kernel_rfl) ?_
  refine rnD ?_
  refine DW.v V.nilCheck rfl ⟨ct,trivial⟩ (fun _=>trivial) ?_
  refine rnD ?_
  refine DW.ld rfl (hS3.s.blk.fld rfl) ?_
  refine DW.v V.move rfl ⟨ct,trivial⟩ (fun _=>trivial) ?_
  refine DW.v V.indexAddr rfl ⟨ct,ct,trivial⟩ (fun _=>by have:=hS.len; (try dsimp only); omega) ?_
  refine DW.ld rfl hc3 ?_
  refine rnD ?_
  refine DW.ld rfl (hBk3.fld rfl) ?_
  refine DW.v V.andNot32 rfl ⟨ct,ct,trivial⟩ (fun _=>trivial) ?_
  refine rnD ?_
  refine DW.fi [0,2,4,7,8,9,14,15,40] rfl fun w4 hb4=> ?_
  refine KW.then_ ?_
  have hB4:=hB3.step hb4
  have hBk4:=hBk3.next hb4
  have hS4:=hS3.step hb4
  refine CW.condP rfl (fun hzero=> ?_) (fun hnz=> ?_)
  ·refine rnT ?_
   refine TW.buildSlice 3 _ rfl rfl rfl eo32 (Args.cons rfl ct Args.nil) rfl rfl rfl rfl rfl ?_
   rintro g5 w5 f5
   obtain ⟨n,hnl,hown,hvg⟩:=((((hL.below hb2).below hb3).below hb4).below f5.below)
   have hnc:n≤c:=by rw [hnl]; unfold lstTo; exact Nat.le_trans (List.length_filter_le _ _) (by simp)
   refine TW.append [.int .i64 (c:Int)] rfl rfl go32 rfl hown rfl rfl (fun j v hj=>⟨⟨g5,0,none⟩,rfl,f5.blk.fld hj⟩) (fun v hv=>by simp at hv; subst hv; rfl) (by omega) (by omega) ?_
   rintro lv' w6 hown6 hg6 hnew6
   refine rnT ?_
   have hB5:=hB4.step f5.below
   have hs5:=hB5.size
   have hB6:Below w1.heap.size w1 w6:=hB5.grown hg6 hs5 (fun q hq=>hvg q hq)
   have hS6:=(hS.step f1.below).step hB6
   have hBk6:=f1.blk.next hB6
   have hz0:andN (F.getD c 0) k=0:=by exact_mod_cast hzero
   have hls:lstTo F k (c+1)=lstTo F k c++ [c]:=by rw [lstTo_succ,hnb,hz0]; simp
   have hfa:freeAt d us s c=dec (Free d s u):=dec_congr ⟨fun ⟨u',h1,h2⟩=>by rw [hu] at h1; cases h1; exact h2,fun h=>⟨u,hu,h⟩⟩
   have hN6:Nums w6 w1.heap.size lv' (lstTo F k (c+1)):=by
    refine ⟨n+1,?_,?_,fun q hq=> ?_⟩
    ·rw [hls,List.length_append,←hnl]; rfl
    ·rw [hls,List.map_append]; exact hown6
    ·rcases hnew6 with h|h
     ·exact hvg q (by rw [←h]; exact hq)
     ·rw [h] at hq; cases hq; exact hs5
   have hcan': ∀(i:Nat) (u':U),i<c+1→us[i]?=some u'→k.testBit i=false→CanB d s u':=fun i u' hi hu' hb=>by
    rcases Nat.lt_or_ge i c with h|h
    ·exact hcan i u' h hu' hb
    ·obtain rfl:i=c:=by omega
     rw [hu] at hu'; cases hu'; exact hcu
   refine TW.ldS rfl (fun _ _ h=>hBk6.fld h) ?_
   refine rnT ?_
   refine TW.callF (cap:= []) rfl rfl en225 rfl ct (Args.cons rfl id (Args.cons rfl id (Args.cons rfl id (Args.cons rfl id Args.nil)))) (fun _=>free_c (k:=k) hwd hS6.s hu nu hs ht) ?_
   rintro w7 hb7
   refine rnT ?_
   refine CW.pk [0,2,4,7,8,9,14,15,53] rfl ?_
   have hffr:frI ((lstTo F k (c+1)).find? (freeAt d us s))=if (decide (fr<0)&&dec (Free d s u))=true then (c:Int) else fr:=by
    rw [hls,List.find?_append,hfr,←hfa]
    cases hq:(lstTo F k c).find? (freeAt d us s) with
    | some y =>
     have: ¬((y:Int)<0):=by omega
     simp [frI,this]
    | none =>
     cases hz:freeAt d us s c<;>simp [frI,List.find?,hz]
   refine CW.cond rfl (fun hyes=> ?_) (fun hno=> ?_)
   ·refine rnT ?_
    refine KW.rd (c+1,lv',(c:Int)) ⟨by show c+1≤us.length; omega,hB6.step hb7,hN6.below hb7,?_,hcan'⟩
    show (c:Int)=frI ((lstTo F k (c+1)).find? (freeAt d us s))
    rw [hffr,if_pos hyes]
   ·refine rnT ?_
    refine KW.rd (c+1,lv',fr) ⟨by show c+1≤us.length; omega,hB6.step hb7,hN6.below hb7,?_,hcan'⟩
    show fr=frI ((lstTo F k (c+1)).find? (freeAt d us s))
    rw [hffr,if_neg (by rw [hno]; simp)]
  ·refine rnT ?_
   have hz0: ¬andN (F.getD c 0) k=0:=fun h=>hnz (by rw [h]; rfl)
   have hls:lstTo F k (c+1)=lstTo F k c:=by rw [lstTo_succ,if_neg (fun h=>by rw [Bool.and_eq_true,decide_eq_true_eq] at h; exact hz0 h.2),List.append_nil]
   refine KW.rd (c+1,lv,fr) ⟨by show c+1≤us.length; omega,hB4,?_,?_,fun i u' hi hu' hb=> ?_⟩
   ·show Nums _ _ lv (lstTo F k (c+1))
    rw [hls]
    exact ((hL.below hb2).below hb3).below hb4
   ·show fr=frI ((lstTo F k (c+1)).find? _)
    rw [hls]
    exact hfr
   ·have hi:i<c+1:=hi
    rcases Nat.lt_or_ge i c with h|h
    ·exact hcan i u' h hu' hb
    ·obtain rfl:i=c:=by omega
     rw [hu] at hu'; cases hu'; exact hcu
 ·have hce:c=us.length:=by omega
  subst hce
  have hall: ∀(i:Nat) (u:U),us[i]?=some u→k.testBit i=false→CanB d s u:=fun i u hu hb=>hcan i u (List.getElem?_eq_some_iff.1 hu).1 hu hb
  refine rnT ?_
  refine CW.condP rfl (fun hge0=> ?_) (fun hlt0=> ?_)
  ·refine rnT ?_
   obtain ⟨y,hy⟩: ∃y,(lstTo F k us.length).find? (freeAt d us s)=some y:=by
    cases hq:(lstTo F k us.length).find? (freeAt d us s) with
    | some y=>exact ⟨y,rfl⟩
    | none =>
     rw [hq] at hfr
     rw [hfr] at hge0
     simp only [frI] at hge0
     exact absurd hge0 (by omega)
   rw [hy] at hfr
   subst hfr
   refine TW.buildSlice 3 _ rfl rfl rfl eo32 (Args.cons rfl ct Args.nil) rfl rfl rfl rfl rfl ?_
   rintro g5 w5 f5
   refine rnT ?_
   refine rt1 rfl ⟨f1.below.step (hB.step f5.below),[y],⟨1,rfl,?_,fun q hq=> ?_⟩,.inr ⟨hall,?_⟩⟩
   ·exact OwnS.of_blk f5.blk rfl (by decide)
   ·have e5:g5=q:=by simpa [Value.ownBlock] using hq
    subst e5
    have:=f5.at_
    have:=hB.size
    have:=f1.below.size
    omega
   ·unfold choOf
    rw [hy]
  ·refine rnT ?_
   refine rt1 rfl ⟨f1.below.step hB,lstTo F k us.length,?_,.inr ⟨hall,?_⟩⟩
   ·obtain ⟨n,h1,h2,h3⟩:=hL
    exact ⟨n,h1,h2,fun q hq=>Nat.le_trans f1.below.size (h3 q hq)⟩
   ·unfold choOf
    cases hq:(lstTo F k us.length).find? (freeAt d us s) with
    | none=>rfl
    | some y =>
     rw [hq] at hfr
     exact absurd (by rw [hfr]; simp only [frI]; omega) hlt0
theorem Nums.form {w:World} {b:Nat} {v:Value} {L:List Nat} (h:Nums w b v L): ∃A cap,v= .slice A L.length cap∧L.length≤cap:=by
 obtain ⟨n,rfl,h2,h3⟩:=h
 obtain ⟨A,cap,hv,hc,_⟩:=h2.form
 exact ⟨A,cap,hv,hc⟩
theorem Nums.get {b:Nat} {A:Option Addr} {n cap:Nat} {L:List Nat} (h:Nums w b (.slice A n cap) L) {i x:Nat} (hx:L[i]?=some x): ∃g,A=some ⟨g,0,none⟩∧w.cell? (Addr.add ⟨g,0,none⟩ ((i:Int).toNat*1))=some (.int .i64 (x:Int)):=by
 obtain ⟨m,rfl,h2,h3⟩:=h
 obtain ⟨A',cap',hv,hc,hl,hcell⟩:=h2.form
 simp only [Value.slice.injEq] at hv
 obtain ⟨rfl,_,rfl⟩:=hv
 obtain ⟨g,hA,_,hc2,_⟩:=hcell i (.int .i64 (x:Int)) (by simp [hx])
 refine ⟨g,hA,?_⟩
 rw [addr0]
 simpa using hc2
theorem Nums.kept {w w':World} {b g:Nat} {v:Value} {L:List Nat} (h:Nums w b v L) (hb:But g w w') (hg:g<b):Nums w' b v L:=by
 obtain ⟨n,h1,h2,h3⟩:=h
 refine ⟨n,h1,h2.kept fun q hq=>hb.block q (h2.lt hq) (fun e=> ?_),h3⟩
 cases e
 have:=h3 _ hq
 omega
theorem Nums.big {b:Nat} {v:Value} {L:List Nat} (h:Nums w b v L):L.length≤9223372036854775807:=by
 obtain ⟨n,h1,h2,h3⟩:=h
 rcases h2.2 with ⟨rfl,h0⟩|⟨g,cap,cur,hv,hg,hh,ha,hb,hc,hd⟩
 ·omega
 ·simp only [maxLen] at hb
  omega
theorem quick_c {g m gf:Nat} {d:Dist} {us:List U} {dv uv:Value} {F:List Nat} (hwd:WfD d) (hS:SrchF w g m d us dv uv gf F) (hn: ∀u∈us,Num d u) (h16:us.length≤16) :
  Gives Tryz.prog 86 #[.pointer (some ⟨g,0,none⟩)] w fun x w'=>Below w.heap.size w w' ∧
   (x= .tuple #[.slice none 0 0,.bool false]∨ ∃v L,x= .tuple #[v,.bool true]∧Nums w' w.heap.size v L∧(∀i∈L,i<us.length)∧Feas d (none,0) us):=by
 obtain ⟨U1,ucap,rfl,_⟩:=hS.s.units.form
 refine gv (f:=86) ?_
 refine rnT ?_
 refine TW.build [1] [.const (.int .i64 (-1))] [.int .u32 ((0:Nat):Int),.int .i64 (-1)] rfl rfl rfl (Args.cons rfl ct Args.nil) (by kernel_rfl) ?_
 refine TW.newVar rfl zc156 rfl sz156 rfl rfl ?_
 rintro g1 w1 f1
 refine rnT ?_
 refine TW.v V.nilCheck rfl ⟨ct,trivial⟩ (fun _=>trivial) ?_
 refine rnT ?_
 refine TW.ld rfl ((hS.step f1.below).s.blk.fld rfl) ?_
 refine rnT ?_
 have hg1:=f1.at_
 have hw1:=f1.size
 refine CW.lp [0,4,14] (fun x:Nat×Nat×St×Value=> [(5,none,.int .i64 x.2.2.1.2),(6,none,x.2.2.2),(15,none,.int .i64 (x.1:Int))])
  (fun x W=>x.1≤us.length∧Below w.heap.size w W∧w1.heap.size≤W.heap.size∧Blk W g1 156 [.int .u32 (x.2.1:Int),.int .i64 (offI x.2.2.1.1)]∧(∃L,Nums W w1.heap.size x.2.2.2 L∧L.length=x.1∧ ∀i∈L,i<us.length)∧Go.Ord.Way d us x.2.1 x.2.2.1 x.1∧x.2.1<2 ^ 32∧0≤x.2.2.1.2∧x.2.2.1.2≤3000000) (fun x=>us.length-x.1) (0,0,(none,0),.slice none 0 0) ⟨Nat.zero_le _,f1.below,Nat.le_refl _,f1.blk,⟨[],Nums.nil _ _,rfl,fun i hi=>by cases hi⟩,Go.Ord.Way.zero us,(by decide:0<2 ^ 32),Int.le_refl _,(by decide:(0:Int)≤3000000)⟩ ?_
 rintro ⟨c,k,s,sv⟩ W ⟨hc,hB,hsz,hBk,⟨L,hL,hLl,hLi⟩,hway,hk,ht0,ht1⟩
 dsimp only at hc hB hsz hBk hL hLl hway hk ht0 ht1
 refine rnT ?_
 refine CW.condP rfl (fun hlt=> ?_) (fun hge=> ?_)
 ·have hcl:c<us.length:=by omega
  have hSW:=hS.step hB
  have hsok:SOK d s:=hway.sok fun u hu=>(hn u hu).ok
  refine rnT ?_
  refine TW.ldS rfl (fun _ _ h=>hBk.fld h) ?_
  refine rnT ?_
  refine TW.cl rfl (choices_c (k:=k) hwd hSW hn h16 hk hsok ⟨ht0,ht1⟩) ?_
  rintro y2 w2 ⟨hb2,M,hM,hcho⟩
  obtain ⟨A2,cap2,rfl,_⟩:=hM.form
  refine rnT ?_
  refine CW.pk [0,4,5,6,7,14,15,23] rfl ?_
  refine CW.condP rfl (fun hz=> ?_) (fun hnz=> ?_)
  ·refine rnT ?_
   refine rt2 rfl ⟨hB.step hb2,.inl rfl⟩
  obtain ⟨i,hi⟩: ∃i,M[0]?=some i:=by
   cases M with
   | nil=>exact absurd rfl hnz
   | cons a M=>exact ⟨a,rfl⟩
  obtain ⟨ga,rfl,hci⟩:=hM.get hi
  obtain ⟨u,hu,hbit,hcan⟩:=hcho.mem (List.mem_of_getElem? hi)
  have hil:i<us.length:=(List.getElem?_eq_some_iff.1 hu).1
  have hMp:0<M.length:=(List.getElem?_eq_some_iff.1 hi).1
  have nu:=hn u (List.mem_of_getElem? hu)
  have hB2:=hB.step hb2
  have hS2:=hS.step hB2
  have hBk2:=hBk.next hb2
  obtain ⟨ua,rfl⟩:=hS.s.units.addr (by omega)
  obtain ⟨v1,hc1,hv1⟩:=uv_at hS2.s.units hu
  obtain ⟨t,x,kw,ke,ks,kr,rfl,mw,me,ms,mr,cw,ce,cs,cr⟩:=hv1
  have hbI:begI d s u=beg d s u:=by unfold begI; rw [dec_pos hcan,if_pos rfl]
  have hbr:=begI_rng (s:=s) nu
  have hbn:=(begI_nonneg (s:=s) nu).2 hcan
  have hsp:=nu.span
  refine rnT ?_
  refine TW.ld rfl hci ?_
  refine rnT ?_
  refine CW.draw mixed (by kernel_rfl) ?_
  refine rnD ?_
  refine DW.ldS rfl (fun _ _ h=>hBk2.fld h) ?_
  refine rnD ?_
  refine DW.cl (.ex (.int .i64 (begI d s u))) trivial rfl (fun _ w' hb'=>begin_c (k:=k) hwd (hS2.step hb').s hu nu hsok ⟨by omega,ht1⟩) ?_
  refine rnD ?_
  refine DW.v V.nilCheck rfl ⟨ct,trivial⟩ (fun _=>trivial) ?_
  refine rnD ?_
  refine DW.ld rfl (hS2.s.blk.fld rfl) ?_
  refine rnD ?_
  refine DW.ld rfl hc1 ?_
  refine DW.invoke (.ex (.int .i64 u.span)) trivial rfl rfl (ms) rfl ct DArgs.nil (fun _ w' _=>cs w') ?_
  refine rnD ?_
  refine DW.fi [0,4,5,6,7,8,14,15] rfl fun w3 hb3=> ?_
  refine rnT ?_
  have hS3:=hS2.step hb3
  have hBk3:=hBk2.next hb3
  have hB3:=hB2.step hb3
  refine TW.ldS rfl (fun _ _ h=>hBk3.fld h) ?_
  refine rnT ?_
  refine TW.cl rfl (after_c (k:=k) hS3.s hu hk (by omega)) ?_
  rintro y4 w4 ⟨hb4,rfl⟩
  have hBk4:=hBk3.next hb4
  have hB4:=hB3.step hb4
  refine TW.storeBlkF rfl rfl rfl hBk4 sz156 rfl rfl rfl ?_
  rintro w5 hBk5 hg5 hsz5
  refine rnT ?_
  have hB5:Below w.heap.size w w5:=hB4.grown hg5 hB4.size (fun q hq=>by cases hq; omega)
  have hL5:Nums w5 w1.heap.size sv L:=(((hL.below hb2).below hb3).below hb4).kept hg5 (by omega)
  refine TW.buildSlice 3 _ rfl rfl rfl eo32 (Args.cons rfl ct Args.nil) rfl rfl rfl rfl rfl ?_
  rintro g6 w6 f6
  obtain ⟨n,hnl,hown,hvg⟩:=hL5.below f6.below
  refine TW.append [.int .i64 (i:Int)] rfl rfl go32 rfl hown rfl rfl (fun j v hj=>⟨⟨g6,0,none⟩,rfl,f6.blk.fld hj⟩) (fun v hv=>by simp at hv; subst hv; rfl) (by omega) (by omega) ?_
  rintro sv' w7 hown7 hg7 hnew7
  refine rnT ?_
  have hB6:=hB5.step f6.below
  have hszs:w1.heap.size≤w6.heap.size:=by have:=hb2.size; have:=hb3.size; have:=hb4.size; have:=f6.below.size; omega
  have hB7:Below w.heap.size w w7:=hB6.grown hg7 hB6.size (fun q hq=>by have:=hvg q hq; omega)
  have hBk7:Blk w7 g1 156 [.int .u32 ((k ||| 1 <<< i:Nat):Int),.int .i64 (u.exit:Int)]:=by
   have h6:=hBk5.next f6.below
   refine (hg7.block g1 h6.lt (fun e=> ?_)).trans h6
   have:=hvg g1 e.symm
   omega
  have hp:(1 <<< i:Nat)<2 ^ 32:=by rw [Nat.one_shiftLeft]; exact Nat.pow_lt_pow_right (by decide) (by omega)
  refine KW.rd (c+1,k ||| 1 <<< i,nxt d s u,sv') ⟨by show c+1≤us.length; omega,hB7,Nat.le_trans hszs hg7.size,hBk7,⟨L++ [i],⟨n+1,by simp [hnl],by rw [List.map_append]; exact hown7,fun q hq=> ?_⟩,by simp [hLl],fun j hj=> ?_⟩,hway.step hu hbit hcan,Nat.or_lt_two_pow hk hp,?_,?_⟩ (hp:=by rw [hbI]; rfl)
  ·rcases hnew7 with h|h
   ·exact hvg q (by rw [←h]; exact hq)
   ·rw [h] at hq; cases hq; exact hszs
  ·rcases List.mem_append.1 hj with h|h
   ·exact hLi j h
   ·rw [List.mem_singleton] at h; omega
  ·show 0≤beg d s u+u.span
   omega
  ·show beg d s u+u.span≤3000000
   omega
 ·have hce:c=us.length:=by omega
  subst hce
  refine rnT ?_
  refine rt2 rfl ⟨hB,.inr ⟨sv,L,rfl,?_,hLi,hway.feas⟩⟩
  obtain ⟨n,h1,h2,h3⟩:=hL
  exact ⟨n,h1,h2,fun q hq=>by have:=h3 q hq; omega⟩
end Go.Proofs.YtobaafdejnimkaaGreatDoor
