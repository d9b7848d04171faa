/- Texts of this claim,joined. -/
import Derived.Test.YtobaafdejnimkaaGreatDoorQP
set_option linter.unusedSimpArgs false
set_option linter.unusedVariables false
set_option maxRecDepth 100000
set_option maxHeartbeats 4000000
namespace Go.Proofs.YtobaafdejnimkaaGreatDoor
open Go.PF Go.RowKit Go.Ord
attribute [local irreducible] TW CW KW DW
variable {w:World} {F:Nat→Prop} {v kv pv lv wv dv:Value} {ks:List Int} {p:Pp} {g n g2 g3 g4:Nat} {s lab:ByteArray} {t op:Int} {l:List Ev} {ws:List (List Int)} {d:Dc} {N:Net} {c:Cl}
theorem isLabel1_c {x:Nat}:Gives Tryz.prog 265 #[.int .i32 (x:Int)] w fun u w'=>Below w.heap.size w w'∧u= .bool (othR x):=by
 refine gv (f:=265) ?_
 refine rnT ?_
 refine rt1 rfl ⟨Below.refl _ _,?_⟩
 unfold othR
 by_cases h1:x<65<;>by_cases h2:90<x<;>by_cases h3:x<48<;>by_cases h4:57<x<;>by_cases h5:x=46<;>simp [h1,h2,h3,h4,h5]<;>omega
theorem containsR_c:Gives Tryz.prog 266 #[.string s,.func (.func 265) #[] #[]] w fun u w'=>Below w.heap.size w w'∧u= .bool (!dec (∀i,i<s.size→okB (byteAt s i))):=by
 refine Calls.mono (Tryz.strings_ContainsFunc_grows 265 #[] (fun args w=>run_enters en265 args w) othR s w fun W x _ _=>Calls.mono (isLabel1_c (w:=W) (x:=x)) ?_) ?_
 ·rintro e w' ⟨u,rfl,h1,rfl⟩
  exact ⟨rfl,h1⟩
 ·rintro e w' ⟨rfl,h⟩
  exact ⟨_,rfl,h,by rw [lab_idx]⟩
theorem isLab_c:Gives Tryz.prog 255 #[.string s] w fun u w'=>Below w.heap.size w w'∧u= .bool (dec (isLab s)):=by
 refine gv (f:=255) ?_
 refine rnT ?_
 refine CW.cond rfl (fun hbad=> ?_) (fun hgood=> ?_)
 ·refine rnT ?_
  refine rt1 rfl ⟨Below.refl _ _,?_⟩
  rw [dec_neg fun h=> ?_]
  have h1:=h.1
  have h2:=h.2.1
  simp at hbad
  omega
 have hs:1≤s.size∧s.size≤20:=by simp at hgood; omega
 refine rnT ?_
 refine TW.cl rfl (containsR_c) ?_
 rintro y w1 ⟨c1,rfl⟩
 refine rnT ?_
 refine rt1 rfl ⟨c1,?_⟩
 by_cases h: ∀i,i<s.size→okB (byteAt s i)
 ·rw [dec_pos h,dec_pos ⟨hs.1,hs.2,h⟩]; rfl
 ·rw [dec_neg h,dec_neg fun h'=>h h'.2.2]; rfl
def rcL (s:ByteArray):List Value:= [.int .i64 0,.int .i64 0,.int .i64 1,.int .i64 0,.string s,.slice none 0 0]
theorem complete1_c {n m:Int}:Gives Tryz.prog 254 #[.int .i64 n,.int .i64 m] w fun u w'=>Below w.heap.size w w'∧u= .bool (decide (0≤n∧n≤m)):=by
 refine gv (f:=254) ?_
 refine rnT ?_
 refine rt1 rfl ⟨Below.refl _ _,by simp⟩
theorem complete_c:Gives Tryz.prog 240 #[.agg (rcL s).toArray] w fun u w'=>Below w.heap.size w w'∧u= .bool (dec (isLab s)):=by
 refine gv (f:=240) ?_
 refine rnT ?_
 refine TW.box rfl rfl rfl rfl ?_
 rintro g1 w1 f1
 refine rnT ?_
 refine TW.ld rfl (f1.blk.fld rfl) ?_
 refine TW.callF rfl rfl en254 rfl ct (Args.cons rfl ct (Args.cons rfl ct Args.nil)) (fun _=>complete1_c) ?_
 rintro w2 b2
 refine rnT ?_
 refine TW.ld rfl ((f1.blk.next b2).fld rfl) ?_
 refine TW.callF rfl rfl en254 rfl id (Args.cons rfl id (Args.cons rfl ct Args.nil)) (fun _=>complete1_c) ?_
 rintro w3 b3
 refine rnT ?_
 refine TW.ld rfl ((f1.blk.next (b2.step b3)).fld rfl) ?_
 refine TW.callF rfl rfl en254 rfl id (Args.cons rfl id (Args.cons rfl ct Args.nil)) (fun _=>complete1_c) ?_
 rintro w4 b4
 refine rnT ?_
 refine TW.ld rfl ((f1.blk.next ((b2.step b3).step b4)).fld rfl) ?_
 refine TW.callF (cap:= []) rfl rfl en255 rfl ct (Args.cons rfl id Args.nil) (fun _=>isLab_c) ?_
 rintro w5 b5
 refine rnT ?_
 refine CW.pk [0,1,2,3,28] rfl ?_
 have b15:=((b2.step b3).step b4).step b5
 have f5:=f1.blk.next b15
 have hbel:=f1.below.step b15
 refine CW.cond rfl (fun hbad=> ?_) (fun hgood=> ?_)
 ·refine rnT ?_
  refine rt1 rfl ⟨hbel,?_⟩
  cases hq:dec (isLab s) with
  | false=>rfl
  | true=>rw [hq] at hbad; simp at hbad
 ·have hlab:dec (isLab s)=true:=by
   cases hq:dec (isLab s) with
   | true=>rfl
   | false=>rw [hq] at hgood; simp at hgood
  refine rnT ?_
  refine TW.ld rfl (f5.fld rfl) ?_
  refine rnT ?_
  refine CW.condP rfl (fun hk1=> ?_) (fun hk1=> ?_)
  ·refine rnT ?_
   refine TW.ld rfl (f5.fld rfl) ?_
   refine rnT ?_
   refine rt1 rfl ⟨hbel,by rw [hlab]; rfl⟩
  ·exact absurd rfl hk1
theorem small0_c:Gives Tryz.prog 278 #[.int .i64 0] w fun u w'=>Below w.heap.size w w'∧u= .string ⟨#[48]⟩:=by
 refine gv (f:=278) ?_
 refine rnT ?_
 refine CW.pk [0,2,4] rfl ?_
 refine CW.condP rfl (fun h1=> ?_) (fun h2=> ?_)
 ·refine CW.seq (CW.region ?_)
  refine TW.v V.move rfl ⟨ct,trivial⟩ (fun _=>trivial) ?_
  refine TW.v V.move rfl ⟨ct,trivial⟩ (fun _=>trivial) ?_
  refine TW.v V.add rfl ⟨ct,ct,trivial⟩ (fun _=>by decide) ?_
  refine TW.v V.sliceSLH rfl ⟨ct,ct,ct,trivial⟩ (fun _=>by decide) ?_
  refine rnT ?_
  refine rt1 rfl ⟨Below.refl _ _,by rfl⟩
 ·exact absurd h2 (by decide)
theorem format0_c:Gives Tryz.prog 269 #[.int .i64 0,.int .i64 10] w fun u w'=>Below w.heap.size w w'∧u= .string ⟨#[48]⟩:=by
 refine gv (f:=269) ?_
 refine rnT ?_
 refine CW.condP rfl (fun h1=> ?_) (fun h2=> ?_)
 ·refine rnT ?_
  refine CW.pk [0,1,4,17] rfl ?_
  refine CW.cond rfl (fun h3=> ?_) (fun h4=> ?_)
  ·refine rnT ?_
   refine TW.cl rfl (small0_c) ?_
   rintro y w1 ⟨b1,rfl⟩
   refine rnT ?_
   refine rt1 rfl ⟨b1,rfl⟩
  ·exact absurd h4 (by decide)
 ·exact absurd rfl h2
theorem iitoa0_c:Gives Tryz.prog 257 #[.int .i64 0] w fun u w'=>Below w.heap.size w w'∧u= .string ⟨#[48]⟩:=by
 refine gv (f:=257) ?_
 refine rnT ?_
 refine TW.cl rfl (format0_c) ?_
 rintro y w1 ⟨b1,rfl⟩
 refine rnT ?_
 refine rt1 rfl ⟨b1,rfl⟩
theorem itoa0_c:Gives Tryz.prog 241 #[.int .i64 0] w fun u w'=>Below w.heap.size w w'∧u= .string ⟨#[48]⟩:=by
 refine gv (f:=241) ?_
 refine rnT ?_
 refine TW.cl rfl (iitoa0_c) ?_
 rintro y w1 ⟨b1,rfl⟩
 refine rnT ?_
 refine rt1 rfl ⟨b1,rfl⟩
theorem join_c {xs:List ByteArray} {sep:ByteArray} (h:OwnS w 9 1 v xs.length (xs.map Value.string)) (h0:0<xs.length) (hN:xs.length≤1000000) (hlen:(Lib.join (xs.map (·.data.toList)) sep.data.toList).length≤140737488355328) :
  Gives Tryz.prog 258 #[v,.string sep] w fun u w'=>Below w.heap.size w w'∧u= .string ⟨(Lib.join (xs.map (·.data.toList)) sep.data.toList).toArray⟩:=by
 rcases h.2 with ⟨rfl,h1⟩|⟨g,cap,cur,rfl,hg,hh,h1,h2,h3,h4⟩
 ·omega
 ·refine Calls.mono (Tryz.strings_Join g 0 cap xs sep w (fun j x hx=> ?_) (Array.getElem?_eq_some_iff.1 hh).1 (by omega) h1 hlen) ?_
  ·rw [Nat.mul_one] at h4
   have:(xs.map Value.string)[j]?=some (.string x):=by simp [hx]
   rw [←h4,List.getElem?_take] at this
   split at this
   ·simp [World.cell?,hh]
    simpa using this
   ·cases this
  ·rintro e w' ⟨rfl,hb⟩
   exact ⟨_,rfl,hb,rfl⟩
def wdsL (s:ByteArray):List ByteArray:= [⟨#[115,99,97,110]⟩,⟨#[48]⟩,⟨#[48]⟩,⟨#[48]⟩,s]
theorem line_c (hs:s.size≤1000) (h:OwnS w 9 1 v 5 ((wdsL s).map Value.string)) :
  Gives Tryz.prog 242 #[v] w fun u w'=>Below w.heap.size w w'∧ ∃t:ByteArray,u= .string t∧t≠⟨#[]⟩:=by
 refine gv (f:=242) ?_
 refine rnT ?_
 refine TW.cl rfl (join_c (xs:=wdsL s) h (by simp [wdsL]) (by simp [wdsL]) (by simp [Lib.join,wdsL]; omega)) ?_
 rintro y w1 ⟨b1,rfl⟩
 refine rnT ?_
 refine rt1 rfl ⟨b1,_,rfl,fun e=> ?_⟩
 have e2:=congrArg (fun t:ByteArray=>t.data.toList) e
 simp [wdsL,Lib.join] at e2
theorem text_c:Gives Tryz.prog 212 #[.agg (rcL s).toArray] w fun u w'=>Below w.heap.size w w'∧ ∃t:ByteArray,u= .string t∧(t=⟨#[]⟩↔ ¬isLab s):=by
 refine gv (f:=212) ?_
 refine rnT ?_
 refine TW.box rfl rfl rfl rfl ?_
 rintro g1 w1 f1
 refine rnT ?_
 refine TW.ldS rfl (fun _ _ hv=>f1.blk.fld hv) ?_
 refine TW.cl rfl (complete_c) ?_
 rintro y w2 ⟨b2,rfl⟩
 have hB2:=f1.blk.next b2
 refine rnT ?_
 refine CW.cond rfl (fun hbad=> ?_) (fun hgood=> ?_)
 ·refine rnT ?_
  refine rt1 rfl ⟨f1.below.step b2,_,rfl,fun _ h=> ?_,fun _=>rfl⟩
  rw [dec_pos h] at hbad
  cases hbad
 have hlab:isLab s:=dec_iff.1 (by simpa using hgood)
 have hs:=hlab.2.1
 refine rnT ?_
 refine TW.ld rfl (hB2.fld rfl) ?_
 refine rnT ?_
 refine CW.condP rfl (fun hk=> ?_) (fun hk=> ?_)
 ·exact absurd hk (by decide)
 refine rnT ?_
 refine CW.draw mixed (by kernel_rfl) ?_
 refine rnD ?_
 refine DW.ld rfl (hB2.fld rfl) ?_
 refine DW.cl (.ex (.string ⟨#[48]⟩)) trivial rfl (fun _ w' hb'=>itoa0_c) ?_
 refine rnD ?_
 refine DW.ld rfl (hB2.fld rfl) ?_
 refine DW.cl (.ex (.string ⟨#[48]⟩)) trivial rfl (fun _ w' hb'=>itoa0_c) ?_
 refine rnD ?_
 refine DW.ld rfl (hB2.fld rfl) ?_
 refine DW.cl (.ex (.string ⟨#[48]⟩)) trivial rfl (fun _ w' hb'=>itoa0_c) ?_
 refine rnD ?_
 refine DW.ld rfl (hB2.fld rfl) ?_
 refine DW.buildSliceB 9 _ (fun v W=> ∃g,v= .slice (some ⟨g,0,none⟩) 5 5∧w2.heap.size≤g∧Blk W g 9 ((wdsL s).map Value.string)) (fun _ _ _ hb ⟨g,h1,h2,h3⟩=>⟨g,h1,h2,h3.next hb⟩) rfl rfl rfl eo23 (PArgs.cons rfl ct (PArgs.cons rfl ct (PArgs.cons rfl ct (PArgs.cons rfl ct (PArgs.cons rfl ct PArgs.nil))))) rfl rfl rfl (fun _ vs w' hb' hs=> ?_) ?_
 ·obtain ⟨_,_,_,_,_,rfl,rfl,rfl,rfl,rfl,rfl⟩:=Sats.five hs
  exact ⟨fun v hv=>by simp at hv; rcases hv with rfl|rfl|rfl<;>rfl,fun g w'' f=>⟨g,rfl,by have:=f.at_; have:=hb'.size; omega,f.blk⟩⟩
 refine DW.assignP rfl rfl rfl ct (fun _ _ _ hb ⟨g,h1,h2,h3⟩=>⟨g,h1,h2,h3.next hb⟩) ?_
 refine DW.nil (DW.finX [0,1,2,3] [(0,_,_),(1,_,_),(2,_,_),(3,_,_)] rfl [4] rfl fun vs w3 b3 hs3=>KW.then_ ?_)
 obtain ⟨v4,rfl,h4⟩:=Sats.one hs3
 refine rnT ?_
 obtain ⟨g4,rfl,hg4,hB4⟩:=h4
 have hB3:=hB2.next b3
 refine TW.ld rfl (hB3.fld rfl) ?_
 refine TW.append (m:=0) (A:=none) [] rfl rfl go23 rfl (OwnS.of_blk hB4 (n:=5) (sz:=1) rfl (by decide)) rfl rfl (fun j u hj=>by simp at hj) (fun u hu=>by cases hu) (by decide) (by decide) ?_
 rintro v5 w5 hO5 hg5 hn5
 have b5:Below w.heap.size w w5:=((f1.below.step b2).step b3).grown hg5 ((f1.below.step b2).step b3).size (fun g hg=>by simp [Value.ownBlock] at hg; have:=f1.below.size; have:=b2.size; omega)
 refine TW.cl rfl (line_c (s:=s) (by omega) (by rw [List.append_nil] at hO5; exact hO5)) ?_
 rintro y w6 ⟨b6,t,rfl,ht⟩
 refine rnT ?_
 refine rt1 rfl ⟨b5.step b6,t,rfl,fun e=>absurd e ht,fun h=>absurd hlab h⟩
theorem hisLab_c:Gives Tryz.prog 136 #[.string s] w fun u w'=>Below w.heap.size w w'∧u= .bool (dec (isLab s)):=by
 refine gv (f:=136) ?_
 refine rnT ?_
 refine TW.build [2,4] _ (rcL s) rfl rfl rfl (Args.cons rfl ct (Args.cons rfl ct Args.nil)) (by kernel_rfl) ?_
 refine TW.cl rfl (text_c (s:=s)) ?_
 rintro y w1 ⟨b1,t,rfl,ht⟩
 refine rnT ?_
 refine rt1 rfl ⟨b1,?_⟩
 by_cases h:isLab s
 ·rw [dec_pos h]
  have:t≠⟨#[]⟩:=fun e=>ht.1 e h
  rw [beqL,decide_eq_false this]
  rfl
 ·rw [dec_neg h]
  have:t=⟨#[]⟩:=ht.2 h
  simp [this]
theorem below_c {n m:Int}:Gives Tryz.prog 137 #[.int .i64 n,.int .i64 m] w fun u w'=>Below w.heap.size w w'∧u= .bool (decide (0≤n∧n<m)):=by
 refine gv (f:=137) ?_
 refine rnT ?_
 refine rt1 rfl ⟨Below.refl _ _,by simp⟩
theorem isRem_c {n:Int}:Gives Tryz.prog 139 #[.int .i64 n] w fun u w'=>Below w.heap.size w w'∧u= .bool (decide (remOK n)):=by
 refine gv (f:=139) ?_
 refine rnT ?_
 refine TW.cl rfl (below_c) ?_
 rintro y w1 ⟨b1,rfl⟩
 refine rnT ?_
 refine rt1 rfl ⟨b1,rfl⟩
theorem allI_c {l:List Int} (h:SL intT F w v l):Gives Tryz.prog 138 #[v,.func (.func 139) #[] #[]] w fun u w'=>Below w.heap.size w w'∧u= .bool (decide (∀x∈l,remOK x)):=by
 obtain ⟨A,cap,rfl,_⟩:=h.form
 have hmax:=h.len.2.2
 refine gv (f:=138) ?_
 refine rnT ?_
 refine CW.lp [1,7,8] (fun i:Nat=> [(9,none,.int .i64 (i:Int))])
  (fun i W=>i≤l.length∧Below w.heap.size w W∧ ∀x∈l.take i,remOK x) (fun i=>l.length-i) 0 ⟨Nat.zero_le _,Below.refl _ _,by simp⟩ ?_
 rintro i W ⟨hi,hB,hall⟩
 refine rnT ?_
 refine CW.pk [1,7,8,9,10] rfl ?_
 refine CW.condP rfl (fun hlt=> ?_) (fun hge=> ?_)
 ·obtain ⟨x,hx,hxm⟩:=getx (l:=l) (k:=i) (by omega)
  have hW:=h.below hB
  obtain ⟨ad,rfl⟩:=hW.addr (by omega)
  refine rnT ?_
  refine TW.ld rfl (hW.getI hx) ?_
  refine rnT ?_
  refine TW.call0 rfl rfl en139 rfl (Args.cons rfl ct Args.nil) (isRem_c) ?_
  rintro y w2 ⟨b2,rfl⟩
  refine rnT ?_
  refine CW.cond rfl (fun hno=> ?_) (fun hyes=> ?_)
  ·refine rnT ?_
   refine rt1 rfl ⟨hB.step b2,?_⟩
   rw [decide_eq_false fun hq=> ?_]
   simp [hq x hxm] at hno
  ·refine rnT ?_
   refine KW.rd (i+1) ⟨by omega,hB.step b2,fun y hy=> ?_⟩
   rw [List.take_add_one,hx] at hy
   rcases List.mem_append.1 hy with hy|hy
   ·exact hall y hy
   ·simp at hy
    subst hy
    simpa using hyes
 ·refine rnT ?_
  refine rt1 rfl ⟨hB,?_⟩
  rw [List.take_of_length_le (by omega)] at hall
  rw [decide_eq_true hall]
theorem allS_c {l:List ByteArray} (h:SL strT F w v l):Gives Tryz.prog 220 #[v,.func (.func 136) #[] #[]] w fun u w'=>Below w.heap.size w w'∧u= .bool (dec (∀x∈l,isLab x)):=by
 obtain ⟨A,cap,rfl,_⟩:=h.form
 have hmax:=h.len.2.2
 refine gv (f:=220) ?_
 refine rnT ?_
 refine CW.pk [0,1,4,7,8,9] rfl ?_
 refine CW.lp [1,7,8] (fun i:Nat=> [(9,none,.int .i64 (i:Int))])
  (fun i W=>i≤l.length∧Below w.heap.size w W∧ ∀x∈l.take i,isLab x) (fun i=>l.length-i) 0 ⟨Nat.zero_le _,Below.refl _ _,by simp⟩ ?_
 rintro i W ⟨hi,hB,hall⟩
 refine rnT ?_
 refine CW.condP rfl (fun hlt=> ?_) (fun hge=> ?_)
 ·obtain ⟨x,hx,hxm⟩:=getx (l:=l) (k:=i) (by omega)
  have hW:=h.below hB
  obtain ⟨ad,rfl⟩:=hW.addr (by omega)
  refine rnT ?_
  refine TW.ld rfl (hW.getT hx) ?_
  refine rnT ?_
  refine TW.call0 rfl rfl en136 rfl (Args.cons rfl ct Args.nil) (hisLab_c) ?_
  rintro y w2 ⟨b2,rfl⟩
  refine rnT ?_
  refine CW.cond rfl (fun hno=> ?_) (fun hyes=> ?_)
  ·refine rnT ?_
   refine rt1 rfl ⟨hB.step b2,?_⟩
   rw [dec_neg fun hq=> ?_]
   simp [dec_pos (hq x hxm)] at hno
  ·refine rnT ?_
   refine KW.rd (i+1) ⟨by omega,hB.step b2,fun y hy=> ?_⟩
   rw [List.take_add_one,hx] at hy
   rcases List.mem_append.1 hy with hy|hy
   ·exact hall y hy
   ·simp at hy
    subst hy
    exact dec_iff.1 (by simpa using hyes)
 ·refine rnT ?_
  refine rt1 rfl ⟨hB,?_⟩
  rw [List.take_of_length_le (by omega)] at hall
  rw [dec_pos hall]
theorem areKeys_c {l:List Int} (h:SL intT F w v l):Gives Tryz.prog 135 #[v] w fun u w'=>Below w.heap.size w w'∧u= .bool (dec (KeysOK l)):=by
 obtain ⟨A,cap,rfl,_⟩:=h.form
 refine gv (f:=135) ?_
 refine rnT ?_
 refine TW.callF (cap:= []) rfl rfl en138 rfl ct (Args.cons rfl id (Args.cons rfl ct Args.nil)) (fun _=>allI_c h) ?_
 rintro w1 b1
 refine rnT ?_
 refine rt1 rfl ⟨b1,?_⟩
 by_cases hk:KeysOK l
 ·rw [dec_pos hk]
  obtain ⟨h1,h2,h3⟩:=hk
  rw [decide_eq_true h3]
  simp
  omega
 ·rw [dec_neg hk]
  by_cases h3: ∀x∈l,remOK x
  ·have: ¬(1≤l.length∧l.length≤6):=fun q=>hk ⟨q.1,q.2,h3⟩
   simp
   omega
  ·rw [decide_eq_false h3]
   simp
def ContOK (l:List ByteArray):Prop:=1≤l.length∧l.length≤40∧ ∀x∈l,isLab x
theorem areCont_c {l:List ByteArray} (h:SL strT F w v l):Gives Tryz.prog 154 #[v] w fun u w'=>Below w.heap.size w w'∧u= .bool (dec (ContOK l)):=by
 obtain ⟨A,cap,rfl,_⟩:=h.form
 refine gv (f:=154) ?_
 refine rnT ?_
 refine TW.callF (cap:= []) rfl rfl en220 rfl ct (Args.cons rfl id (Args.cons rfl ct Args.nil)) (fun _=>allS_c h) ?_
 rintro w1 b1
 refine rnT ?_
 refine rt1 rfl ⟨b1,?_⟩
 by_cases hk:ContOK l
 ·rw [dec_pos hk]
  obtain ⟨h1,h2,h3⟩:=hk
  rw [dec_pos h3]
  simp
  omega
 ·rw [dec_neg hk]
  by_cases h3: ∀x∈l,isLab x
  ·have: ¬(1≤l.length∧l.length≤40):=fun q=>hk ⟨q.1,q.2,h3⟩
   simp
   omega
  ·rw [dec_neg h3]
   simp
def dcV (d:Dc):List Value:= [.string d.sl,.int .i64 d.fr,.int .i64 d.to,.int .i64 d.time,.int .i64 d.cnt,.int .i64 d.root,.int .i64 d.give,.int .i64 d.take]
def sgV (d:Dc) (kv:Value):List Value:=dcV d++ [kv]
def shV (p:Pp) (kv pv:Value):List Value:=sgV p.doc kv++ [.string p.label,.int .i64 p.idx,pv]
def ppV (p:Pp) (pv:Value):List Value:=dcV p.doc++ [.string p.label,.int .i64 p.idx,pv]
structure DcOK (d:Dc):Prop where
 f:I64 d.fr
 t:I64 d.to
 m:I64 d.time
 c:I64 d.cnt
 r:I64 d.root
 g:I64 d.give
 k:I64 d.take
theorem lit_i64 {t:TypeId} (l:List Int) (h:Blk w g t (l.map (Value.int .i64))) (hn:n=l.length) (hI: ∀x∈l,I64 x) (hs:l.length≤1000000):SI w (.slice (some ⟨g,0,none⟩) n n) l:=by
 subst hn
 exact OwnS.toInts (OwnS.of_blk h (by simp) (by omega)) hI (fun q hq=>by simp [Value.ownBlock] at hq; subst hq; exact h.lt) (by omega)
theorem first_c (h:SL intT F w kv ks) (hd:DcOK d) (hsz:d.sl.size≤1000000) (h0:0≤d.fr) (h1:d.fr<ks.length) :
  Gives Tryz.prog 141 #[.agg (sgV d kv).toArray] w fun u w'=>Below w.heap.size w w'∧SI w' u (firstS ks d):=by
 obtain ⟨A,cap,rfl,_⟩:=h.form
 obtain ⟨k,hk⟩: ∃k:Nat,d.fr=k:=⟨d.fr.toNat,by omega⟩
 obtain ⟨x,hx,hxm⟩:=getx (l:=ks) (k:=k) (by omega)
 obtain ⟨ad,rfl⟩:=h.addr (by omega)
 have hxI:=h.rngI hx
 refine gv (f:=141) ?_
 refine rnT ?_
 refine TW.box rfl rfl rfl rfl ?_
 rintro g1 w1 f1
 refine rnT ?_
 refine CW.draw mixed (by kernel_rfl) ?_
 refine rnD ?_
 have hB1:=f1.blk
 have h1':=h.below f1.below
 have hget:=h1'.getI hx
 rw [←hk] at hget
 refine DW.ld rfl (hB1.fld rfl) ?_
 refine rnD ?_
 refine DW.ld rfl (hB1.fld rfl) ?_
 refine rnD ?_
 refine DW.ld rfl hget ?_
 refine rnD ?_
 refine DW.ld rfl (hB1.fld rfl) ?_
 refine DW.cl (.ex (.int .i64 (labS d.sl))) trivial rfl (fun _ w' hb'=>label_c hsz) ?_
 refine rnD ?_
 refine DW.ld rfl (hB1.fld rfl) ?_
 refine rnD ?_
 refine DW.ld rfl (hB1.fld rfl) ?_
 refine rnD ?_
 refine DW.ld rfl (hB1.fld rfl) ?_
 refine rnD ?_
 refine DW.ld rfl (hB1.fld rfl) ?_
 refine rnD ?_
 refine DW.ld rfl (hB1.fld rfl) ?_
 refine DW.buildSlice 3 _ rfl rfl rfl eo32 (DArgs.cons rfl id (DArgs.cons rfl id (DArgs.cons rfl id (DArgs.cons rfl id (DArgs.cons rfl id (DArgs.cons rfl id (DArgs.cons rfl id DArgs.nil))))))) rfl rfl rfl rfl rfl ?_
 refine DW.assignP rfl rfl rfl ct (Lies.mono _ _ _) ?_
 refine DW.nil (DW.finX [0,1] [(0,_,_),(1,_,_)] rfl [2] rfl fun vs w3 b3 hs3=>KW.then_ ?_)
 obtain ⟨v2,rfl,h2⟩:=Sats.one hs3
 refine CW.ret ?_
 obtain ⟨g4,rfl,hB4⟩:=h2
 refine rt1 rfl ⟨f1.below.step b3,?_⟩
 have e:firstS ks d= [x,labS d.sl,d.fr,d.to,d.time,d.cnt,d.root]:=by
  unfold firstS
  rw [List.getD_eq_getElem?_getD,show d.fr.toNat=k by omega,hx]
  rfl
 have hl:=sumS_rng (bytesI d.sl)
 rw [e]
 refine lit_i64 _ hB4 rfl (fun y hy=> ?_) (by simp)
 simp only [List.mem_cons,List.not_mem_nil,or_false] at hy
 rcases hy with rfl|rfl|rfl|rfl|rfl|rfl|rfl
 ·exact hxI
 ·exact ⟨by unfold labS; omega,by unfold labS; omega⟩
 ·exact hd.f
 ·exact hd.t
 ·exact hd.m
 ·exact hd.c
 ·exact hd.r
theorem second_c (h:SL intT F w kv ks) (hd:DcOK d) (h0:0≤d.to) (h1:d.to<ks.length) :
  Gives Tryz.prog 142 #[.agg (sgV d kv).toArray] w fun u w'=>Below w.heap.size w w'∧SI w' u (secondS ks d):=by
 obtain ⟨A,cap,rfl,_⟩:=h.form
 obtain ⟨k,hk⟩: ∃k:Nat,d.to=k:=⟨d.to.toNat,by omega⟩
 obtain ⟨x,hx,hxm⟩:=getx (l:=ks) (k:=k) (by omega)
 obtain ⟨ad,rfl⟩:=h.addr (by omega)
 have hxI:=h.rngI hx
 refine gv (f:=142) ?_
 refine rnT ?_
 refine TW.box rfl rfl rfl rfl ?_
 rintro g1 w1 f1
 refine rnT ?_
 refine CW.pk [0,1,2] rfl ?_
 refine CW.draw mixed (by kernel_rfl) ?_
 refine rnD ?_
 have hB1:=f1.blk
 have h1':=h.below f1.below
 have hget:=h1'.getI hx
 rw [←hk] at hget
 refine DW.ld rfl (hB1.fld rfl) ?_
 refine rnD ?_
 refine DW.ld rfl (hB1.fld rfl) ?_
 refine rnD ?_
 refine DW.ld rfl hget ?_
 refine rnD ?_
 refine DW.ld rfl (hB1.fld rfl) ?_
 refine DW.buildSlice 3 _ rfl rfl rfl eo32 (DArgs.cons rfl id (DArgs.cons rfl id DArgs.nil)) rfl rfl rfl rfl rfl ?_
 refine DW.assignP rfl rfl rfl ct (Lies.mono _ _ _) ?_
 refine DW.nil (DW.finX [0,1] [(0,_,_),(1,_,_)] rfl [2] rfl fun vs w3 b3 hs3=>KW.then_ ?_)
 obtain ⟨v2,rfl,h2⟩:=Sats.one hs3
 refine CW.ret ?_
 obtain ⟨g4,rfl,hB4⟩:=h2
 refine rt1 rfl ⟨f1.below.step b3,?_⟩
 have e:secondS ks d= [x,d.give]:=by
  unfold secondS
  rw [List.getD_eq_getElem?_getD,show d.to.toNat=k by omega,hx]
  rfl
 rw [e]
 refine lit_i64 _ hB4 rfl (fun y hy=> ?_) (by simp)
 simp only [List.mem_cons,List.not_mem_nil,or_false] at hy
 rcases hy with rfl|rfl
 ·exact hxI
 ·exact hd.g
theorem forged_c (h:SL intT F w kv ks) (hd:DcOK d) (hk:DocOK ks d) :
  Gives Tryz.prog 69 #[.agg (sgV d kv).toArray] w fun u w'=>Below w.heap.size w w'∧u= .bool (!dec (SignOK ks d)):=by
 obtain ⟨A,cap,rfl,_⟩:=h.form
 refine gv (f:=69) ?_
 refine rnT ?_
 refine TW.box rfl rfl rfl rfl ?_
 rintro g1 w1 f1
 refine rnT ?_
 refine CW.pk [0,1,2] rfl ?_
 refine CW.draw mixed (by kernel_rfl) ?_
 refine rnD ?_
 have hB1:=f1.blk
 have h1:=h.below f1.below
 refine DW.ld rfl (hB1.fld rfl) ?_
 refine DW.ldS rfl (fun _ _ hv=>hB1.fld hv) ?_
 refine DW.cl (.pr (fun u W=>SI W u (firstS ks d))) ?_ rfl (fun _ w' hb'=>first_c (h1.below hb') hd (by have:=hk.lab.2.1; omega) hk.f0 hk.f1) ?_
 ·exact fun _ _ _ hb h=>h.step intT_now hb
 refine DW.callP (.ex (.int .i64 (sumS (firstS ks d)))) (trivial) rfl rfl en140 rfl ct (PArgs.cons rfl ct PArgs.nil) (fun _ w' hb' vs hs=> ?_) ?_
 ·obtain ⟨u,rfl,hu⟩:=Sats.one hs
  exact (dsum_c (show SI w' u (firstS ks d) from hu)).mono fun x w'' ⟨h1,h2⟩=>⟨h1 ▸ Below.refl _ _,h2⟩
 refine rnD ?_
 refine DW.ld rfl (hB1.fld rfl) ?_
 refine DW.ldS rfl (fun _ _ hv=>hB1.fld hv) ?_
 refine DW.call (.pr (fun u W=>SI W u (secondS ks d))) ?_ rfl rfl en142 rfl ct (DArgs.cons rfl id DArgs.nil) (fun _ w' hb'=>second_c (h1.below hb') hd hk.t0 hk.t1) ?_
 ·exact fun _ _ _ hb h=>h.step intT_now hb
 refine DW.callP (.ex (.int .i64 (sumS (secondS ks d)))) (trivial) rfl rfl en140 rfl ct (PArgs.cons rfl id PArgs.nil) (fun _ w' hb' vs hs=> ?_) ?_
 ·obtain ⟨u,rfl,hu⟩:=Sats.one hs
  exact (dsum_c (show SI w' u (secondS ks d) from hu)).mono fun x w'' ⟨h1,h2⟩=>⟨h1 ▸ Below.refl _ _,h2⟩
 refine rnD ?_
 refine DW.fi [0,1,2] rfl fun w3 b3=> ?_
 refine rnT ?_
 refine rt1 rfl ⟨f1.below.step b3,?_⟩
 by_cases hs:SignOK ks d
 ·rw [dec_pos hs]
  simp [hs.1,hs.2]
 ·rw [dec_neg hs]
  by_cases h1:d.give=sumS (firstS ks d)
  ·have h2: ¬d.take=sumS (secondS ks d):=fun h=>hs ⟨h1,h⟩
   simp [h2]
  ·simp [h1]
theorem doc_bool:dec (DocOK ks d)=(dec (KeysOK ks)&&dec (isLab d.sl)&&decide (0≤d.fr∧d.fr<ks.length)&&decide (0≤d.to∧d.to<ks.length)&&decide (0≤d.time∧d.time<1000001)&& !decide (d.cnt<1)&& !decide (d.cnt>40)&&decide (∀x∈ [d.root,d.give,d.take],remOK x)):=by
 by_cases h:DocOK ks d
 ·rw [dec_pos h,dec_pos h.keys,dec_pos h.lab,decide_eq_true ⟨h.f0,h.f1⟩,decide_eq_true ⟨h.t0,h.t1⟩,decide_eq_true (p:=0≤d.time∧d.time<1000001) ⟨h.m0,by have:=h.m1; omega⟩,decide_eq_false (by have:=h.c0; omega),decide_eq_false (by have:=h.c1; omega),decide_eq_true (p:= ∀x∈ [d.root,d.give,d.take],remOK x)]
  ·rfl
  ·intro x hx
   simp only [List.mem_cons,List.not_mem_nil,or_false] at hx
   rcases hx with rfl|rfl|rfl
   ·exact h.r
   ·exact h.g
   ·exact h.k
 ·rw [dec_neg h,eq_comm,Bool.eq_false_iff]
  intro hq
  simp only [Bool.and_eq_true,decide_eq_true_eq,Bool.not_eq_true',decide_eq_false_iff_not] at hq
  obtain ⟨⟨⟨⟨⟨⟨⟨q1,q2⟩,q3⟩,q4⟩,q5⟩,q6⟩,q7⟩,q8⟩:=hq
  exact h ⟨dec_iff.1 q1,dec_iff.1 q2,q3.1,q3.2,q4.1,q4.2,q5.1,by omega,by omega,by omega,q8 _ (by simp),q8 _ (by simp),q8 _ (by simp)⟩
theorem malformed_c (h:SL intT F w kv ks) (hd:DcOK d) :
  Gives Tryz.prog 68 #[.agg (sgV d kv).toArray] w fun u w'=>Below w.heap.size w w'∧u= .bool (!dec (DocOK ks d)):=by
 obtain ⟨A,cap,rfl,_⟩:=h.form
 refine gv (f:=68) ?_
 refine rnT ?_
 refine TW.box rfl rfl rfl rfl ?_
 rintro g1 w1 f1
 refine rnT ?_
 refine TW.ld rfl (f1.blk.fld rfl) ?_
 refine TW.cl rfl (areKeys_c (h.below f1.below)) ?_
 rintro y w2 ⟨b2,rfl⟩
 refine rnT ?_
 refine TW.ld rfl ((f1.blk.next b2).fld rfl) ?_
 refine TW.callF (cap:= []) rfl rfl en136 rfl ct (Args.cons rfl id Args.nil) (fun _=>hisLab_c) ?_
 rintro w3 b3
 refine rnT ?_
 have b13:=b2.step b3
 refine TW.ld rfl ((f1.blk.next b13).fld rfl) ?_
 refine rnT ?_
 refine TW.ld rfl ((f1.blk.next b13).fld rfl) ?_
 refine rnT ?_
 refine TW.callF (cap:= []) rfl rfl en137 rfl ct (Args.cons rfl id (Args.cons rfl id Args.nil)) (fun _=>below_c) ?_
 rintro w4 b4
 refine rnT ?_
 have b14:=b13.step b4
 refine TW.ld rfl ((f1.blk.next b14).fld rfl) ?_
 refine rnT ?_
 refine TW.ld rfl ((f1.blk.next b14).fld rfl) ?_
 refine rnT ?_
 refine TW.callF (cap:= []) rfl rfl en137 rfl ct (Args.cons rfl id (Args.cons rfl id Args.nil)) (fun _=>below_c) ?_
 rintro w5 b5
 refine rnT ?_
 have b15:=b14.step b5
 refine TW.ld rfl ((f1.blk.next b15).fld rfl) ?_
 refine TW.callF (cap:= []) rfl rfl en137 rfl ct (Args.cons rfl id (Args.cons rfl ct Args.nil)) (fun _=>below_c) ?_
 rintro w6 b6
 refine rnT ?_
 have b16:=b15.step b6
 have hB6:=f1.blk.next b16
 refine TW.ld rfl (hB6.fld rfl) ?_
 refine rnT ?_
 refine TW.ld rfl (hB6.fld rfl) ?_
 refine rnT ?_
 rw [doc_bool]
 by_cases hP:(dec (KeysOK ks)&&dec (isLab d.sl)&&decide (0≤d.fr∧d.fr<ks.length)&&decide (0≤d.to∧d.to<ks.length)&&decide (0≤d.time∧d.time<1000001)&& !decide (d.cnt<1)&& !decide (d.cnt>40))=true
 ·skip
  refine TW.known rfl (by simpa [Cnd] using hP) ?_
  refine TW.ld rfl (hB6.fld rfl) ?_
  refine TW.known rfl (by simpa [Cnd] using hP) ?_
  refine TW.v V.fieldAddr rfl ⟨ct,trivial⟩ (fun _=>trivial) ?_
  refine TW.known rfl (by simpa [Cnd] using hP) ?_
  refine rnT ?_
  refine TW.known rfl (by simpa [Cnd] using hP) ?_
  refine TW.ld rfl (hB6.fld rfl) ?_
  refine TW.known rfl (by simpa [Cnd] using hP) ?_
  refine TW.v V.fieldAddr rfl ⟨ct,trivial⟩ (fun _=>trivial) ?_
  refine TW.known rfl (by simpa [Cnd] using hP) ?_
  refine rnT ?_
  refine TW.known rfl (by simpa [Cnd] using hP) ?_
  refine TW.ld rfl (hB6.fld rfl) ?_
  refine TW.known rfl (by simpa [Cnd] using hP) ?_
  refine TW.buildSlice 3 _ rfl rfl rfl eo32 (Args.cons rfl ct (Args.cons rfl ct (Args.cons rfl ct Args.nil))) rfl rfl rfl rfl rfl ?_
  rintro g7 w7 f7
  refine TW.known rfl (by simpa [Cnd] using hP) ?_
  have hL:SI w7 (.slice (some ⟨g7,0,none⟩) 3 3) [d.root,d.give,d.take]:=lit_i64 _ f7.blk rfl (fun y hy=>by
   simp only [List.mem_cons,List.not_mem_nil,or_false] at hy
   rcases hy with rfl|rfl|rfl
   ·exact hd.r
   ·exact hd.g
   ·exact hd.k) (by simp)
  refine TW.cl rfl (allI_c hL) ?_
  rintro y w8 ⟨b8,rfl⟩
  refine TW.known rfl (by simpa [Cnd] using hP) ?_
  refine rnT ?_
  refine rt1 rfl ⟨f1.below.step ((b16.step f7.below).step b8),?_⟩
  rw [hP]
  simp at hP ⊢
  simp [hP]
  omega
 ·skip
  refine TW.dead (.bool false) rfl (fun hc=>hP (by simpa [Cnd] using hc)) rfl ?_
  refine TW.dead (.bool false) rfl (fun hc=>hP (by simpa [Cnd] using hc)) rfl ?_
  refine TW.dead (.bool false) rfl (fun hc=>hP (by simpa [Cnd] using hc)) rfl ?_
  refine TW.dead (.bool false) rfl (fun hc=>hP (by simpa [Cnd] using hc)) rfl ?_
  refine TW.dead (.bool false) rfl (fun hc=>hP (by simpa [Cnd] using hc)) rfl ?_
  refine TW.dead (.bool false) rfl (fun hc=>hP (by simpa [Cnd] using hc)) rfl ?_
  refine TW.dead (.bool false) rfl (fun hc=>hP (by simpa [Cnd] using hc)) rfl ?_
  refine TW.dead (.bool false) rfl (fun hc=>hP (by simpa [Cnd] using hc)) rfl ?_
  refine TW.dead (.bool false) rfl (fun hc=>hP (by simpa [Cnd] using hc)) rfl ?_
  refine TW.dead (.bool false) rfl (fun hc=>hP (by simpa [Cnd] using hc)) rfl ?_
  refine rnT ?_
  refine rt1 rfl ⟨f1.below.step b16,?_⟩
  rw [Bool.not_eq_true] at hP
  rw [hP]
  cases h1:dec (KeysOK ks)<;>cases h2:dec (isLab d.sl)<;>simp [h1,h2] at hP ⊢ <;>omega
def outS (x:Int):Bool:=decide (x< -1)||decide (x ≥ 2147483647)
theorem climb1_c:PredI Tryz.prog w 215 [] outS:=by
 intro x W hb
 refine gv (f:=215) ?_
 refine rnT ?_
 refine rt1 rfl ⟨Below.refl _ _,rfl⟩
theorem climb2_c {b:Nat} {nv:Value} {xs:List Value} {l:List Int} (hB:Blk w g 30 [v]) (hO:OwnS w 32 1 v n xs) (hn:n≤1000) (hb:b≤g) (hvb: ∀q,v.ownBlock=some q→b≤q∧q≠g) (hl:SL intT F w nv l) (hF: ∀k,F k→k<w.heap.size∧k≠g∧v.ownBlock≠some k) :
  Gives Tryz.prog 216 #[nv,.pointer (some ⟨g,0,none⟩)] w fun u w'=>w.heap.size≤w'.heap.size∧Below b w w'∧u= .int .i64 (sumS l)∧ ∃v' xs',Blk w' g 30 [v']∧OwnS w' 32 1 v' (n+1) xs'∧ ∀q,v'.ownBlock=some q→b≤q∧q≠g:=by
 obtain ⟨A,cap,rfl,_⟩:=hl.form
 have hglt:=hB.lt
 refine gv (f:=216) ?_
 refine rnT ?_
 refine TW.ld rfl (hB.cell 0) ?_
 refine rnT ?_
 refine TW.buildSlice 32 _ rfl rfl rfl eo30 (Args.cons rfl ct Args.nil) rfl rfl rfl rfl rfl ?_
 rintro g1 w1 f1
 refine TW.append [.slice A l.length cap] rfl rfl go30 rfl (hO.below f1.below) rfl rfl (fun j u hj=>⟨_,rfl,f1.blk.fld hj⟩) (fun u hu=>by simp at hu; subst hu; rfl) (by omega) (by omega) ?_
 rintro v5 w5 hO5 hg5 hn5
 have hB5:Blk w5 g 30 [v]:=Blk.keptO (hB.next f1.below) hg5 (fun e=>(hvb g e).2 rfl)
 have hg1:=f1.at_
 have hne:v5.ownBlock≠some g:=fun e=>by
  rcases hn5 with h|h
  ·exact (hvb g (by rw [←h]; exact e)).2 rfl
  ·rw [h] at e
   cases e
   have:=f1.below.size
   omega
 have h1c:v5.oneCell'=true:=by
  obtain ⟨A5,c5,e5,_⟩:=hO5.form
  rw [e5]
  rfl
 refine TW.storeFld rfl sz30 rfl rfl hB5 (by show 0<1; decide) h1c ?_
 rintro w6 hB6 hbut6 hs6
 refine rnT ?_
 have hl6:SL intT F w6 (.slice A l.length cap) l:=hl.mono (Kept.of_blocks fun k hk hlt=>by
  obtain ⟨k1,k2,k3⟩:=hF k hk
  have e1:=f1.below.block k k1
  have s1:=f1.below.size
  have e2:=hg5.block k (by omega) (Ne.symm k3)
  have s2:=hg5.size
  have e3:=hbut6.block k (by omega) (fun e=>k2 (by cases e; rfl))
  rw [e3,e2,e1])
 refine TW.cl rfl (sum_c hl6) ?_
 rintro y w7 ⟨rfl,rfl⟩
 refine rnT ?_
 have s1:=f1.below.size
 have s2:=hg5.size
 refine rt1 rfl ⟨by omega,?_,rfl,v5,_,hB6,hO5.kept (fun q hq=> ?_),fun q hq=>⟨?_,fun e=>hne (by rw [←e]; exact hq)⟩⟩
 ·refine ⟨(hbut6.os.trans hg5.os).trans f1.below.os,(hbut6.tape.trans hg5.tape).trans f1.below.tape,(hbut6.output.trans hg5.output).trans f1.below.output,by omega,fun i hi=> ?_⟩
  rw [hbut6.block i (by omega) (fun e=>by cases e; omega),hg5.block i (by omega) (fun e=>by have:=(hvb i e.symm).1; omega),f1.below.block i (by omega)]
 ·exact hbut6.block q (hO5.lt hq) (fun e=>hne (by rw [hq,e]))
 ·rcases hn5 with h|h
  ·exact (hvb q (by rw [←h]; exact hq)).1
  ·rw [h] at hq
   cases hq
   omega
theorem out_any {l:List Int}:l.any outS=false↔ ∀x∈l,-1≤x∧x<2147483647:=by
 rw [List.any_eq_false]
 refine forall_congr' fun x=>forall_congr' fun _=> ?_
 unfold outS
 simp
def Lsts (w0 W:World) (g n:Nat):Prop:=w0.heap.size≤g∧ ∃v xs,Blk W g 30 [v]∧OwnS W 32 1 v n xs∧ ∀q,v.ownBlock=some q→w0.heap.size≤q∧q≠g
theorem Lsts.next {w0 W W':World} {g n:Nat} (h:Lsts w0 W g n) (hb:Below W.heap.size W W'):Lsts w0 W' g n:=by
 obtain ⟨h1,v,xs,h2,h3,h4⟩:=h
 exact ⟨h1,v,xs,h2.next hb,h3.below hb,h4⟩
theorem compute_c {w0 W0:World} {nv:Value} {l:List Int} (hL:Lsts w0 W0 g n) (hb:Below W0.heap.size W0 w) (hn:n≤1000) (hl:SL intT F w nv l) (hF: ∀k,F k→W0.heap.size≤k∧k<w.heap.size) :
  Gives Tryz.prog 216 #[nv,.pointer (some ⟨g,0,none⟩)] w fun u w'=>w.heap.size≤w'.heap.size∧Below w0.heap.size w w'∧u= .int .i64 (sumS l)∧Lsts w0 w' g (n+1):=by
 obtain ⟨h1,v,xs,h2,h3,h4⟩:=hL
 refine (climb2_c (h2.next hb) (h3.below hb) hn h1 h4 hl (fun k hk=> ?_)).mono ?_
 ·obtain ⟨k1,k2⟩:=hF k hk
  have hg:=h2.lt
  exact ⟨k2,by omega,fun e=>by have:=h3.lt e; omega⟩
 ·rintro u w' ⟨q1,q2,q3,v',xs',q4,q5,q6⟩
  exact ⟨q1,q2,q3,h1,v',xs',q4,q5,q6⟩
theorem lit_new {t:TypeId} (l:List Int) (h:Blk w g t (l.map (Value.int .i64))) (hn:n=l.length) (hI: ∀x∈l,I64 x) (hs:l.length≤1000000):SL intT (fun k=>k=g) w (.slice (some ⟨g,0,none⟩) n n) l:=by
 subst hn
 exact OwnS.toInts (OwnS.of_blk h (by simp) (by omega)) hI (fun q hq=>by simp [Value.ownBlock] at hq; exact hq.symm) (by omega)
theorem sum_i64 (l:List Int):I64 (sumS l):=by
 have:=sumS_rng l
 exact ⟨by omega,by omega⟩
theorem low_i64 {x:Int} (h: -1≤x∧x<2147483647):I64 x:=⟨by omega,by omega⟩
theorem three_i64 {a b c:Int} (ha:I64 a) (hb:I64 b) (hc:I64 c): ∀x∈ [a,b,c],I64 x:=fun x hx=>by
 simp only [List.mem_cons,List.not_mem_nil,or_false] at hx
 rcases hx with rfl|rfl|rfl<;>assumption
theorem climb_c {i:Int} {p:List Int} (hp:SL intT F w v p) (hs:s.size≤1000000) (hi:I64 i) :
  Gives Tryz.prog 143 #[.string s,.int .i64 i,v] w fun u w'=>Below w.heap.size w w'∧((ClimbOK i p∧ ∃A n c,u= .tuple #[.int .i64 (climbS (leafS s) i p),.slice A (n+1) c])∨(¬ClimbOK i p∧u= .tuple #[.int .i64 0,.slice none 0 0])):=by
 obtain ⟨A,cap,rfl,_⟩:=hp.form
 have hmax:=hp.len.2.2
 refine gv (f:=143) ?_
 refine rnT ?_
 refine TW.callF (cap:= []) rfl rfl en73 rfl ct (Args.cons rfl id (Args.cons rfl id Args.nil)) (fun _=>containsI_c hp en215 climb1_c) ?_
 rintro w1 b1
 refine rnT ?_
 refine CW.cond rfl (fun hbad=> ?_) (fun hgood=> ?_)
 ·refine rnT ?_
  refine rt2 rfl ⟨b1,.inr ⟨fun h=> ?_,rfl⟩⟩
  have:=out_any.2 h.each
  have h1:=h.i0
  have h2:=h.few
  rw [this] at hbad
  simp at hbad
  omega
 have hok:ClimbOK i p:=by
  cases hq:p.any outS with
  | true=>rw [hq] at hgood; simp at hgood
  | false =>
   rw [hq] at hgood
   simp at hgood
   exact ⟨by omega,by omega,out_any.1 hq⟩
 have hi0:=hok.i0
 have hfew:=hok.few
 refine rnT ?_
 refine TW.alloc rfl rfl zc30 ?_
 rintro g2 w2 f2
 refine rnT ?_
 refine TW.makeFunc rfl rfl (Args.cons rfl ct Args.nil) ?_
 refine rnT ?_
 have hg2:=f2.at_
 have hb1s:=b1.size
 have hw2:=f2.size
 have hL2:Lsts w w2 g2 0:=⟨by omega,.slice none 0 0,[],f2.blk,OwnS.nil _ _ _,fun q hq=>by simp [Value.ownBlock] at hq⟩
 refine TW.cl rfl (numb_c hs) ?_
 rintro y w3 ⟨b3,h3⟩
 refine TW.call0 rfl rfl en216 rfl (Args.cons rfl ct Args.nil) (compute_c hL2 b3 (by omega) h3 (fun k hk=>hk)) ?_
 rintro y w4 ⟨s4,b4,rfl,hL4⟩
 refine TW.buildSlice 3 _ rfl rfl rfl eo32 (Args.cons rfl ct (Args.cons rfl ct Args.nil)) rfl rfl rfl rfl rfl ?_
 rintro g5 w5 f5
 have hg5:=f5.at_
 have hw5:=f5.size
 have hl5:SL intT (fun k=>k=g5) w5 (.slice (some ⟨g5,0,none⟩) 2 2) [0,labS s]:=lit_new _ f5.blk rfl (fun x hx=>by
  simp only [List.mem_cons,List.not_mem_nil,or_false] at hx
  rcases hx with rfl|rfl
  ·exact low_i64 (by decide)
  ·exact sum_i64 _) (by simp)
 refine TW.call0 rfl rfl en216 rfl (Args.cons rfl ct Args.nil) (compute_c hL4 f5.below (by omega) hl5 (fun k hk=>by omega)) ?_
 rintro y w6 ⟨s6,b6,rfl,hL6⟩
 have b06:Below w.heap.size w w6:=by
  have q1:=(b1.step f2.below).step b3
  have q2:Below w.heap.size w w4:=⟨b4.os.trans q1.os,b4.tape.trans q1.tape,b4.output.trans q1.output,by have:=q1.size; omega,fun k hk=>(b4.block k hk).trans (q1.block k hk)⟩
  have q3:=q2.step f5.below
  exact ⟨b6.os.trans q3.os,b6.tape.trans q3.tape,b6.output.trans q3.output,by have:=q3.size; omega,fun k hk=>(b6.block k hk).trans (q3.block k hk)⟩
 refine rnT ?_
 refine CW.lp [9,10,34,35] (fun x:Nat×Int×Int=> [(1,none,.int .i64 x.2.1),(11,none,.int .i64 x.2.2),(36,none,.int .i64 (x.1:Int))])
  (fun x W=>x.1≤p.length∧Below w.heap.size w W∧0≤x.2.1∧x.2.1≤9223372036854775807∧I64 x.2.2∧climbS x.2.2 x.2.1 (p.drop x.1)=climbS (leafS s) i p∧ ∃n,n≤x.1+1∧Lsts w W g2 (n+1)) (fun x=>p.length-x.1) (0,i,leafS s) ⟨Nat.zero_le _,b06,hi0,hi.2,sum_i64 _,rfl,1,by omega,hL6⟩ ?_
 rintro ⟨k,ix,h⟩ W ⟨hk,hbW,hx0,hx1,hhI,heq,n,hn,hLW⟩
 dsimp only at hk hbW hx0 hx1 hhI heq hn
 refine rnT ?_
 refine CW.pk [1,9,10,11,34,35,36,37] rfl ?_
 refine CW.condP rfl (fun hlt=> ?_) (fun hge=> ?_)
 ·obtain ⟨b,hb,hbm⟩:=getx (l:=p) (k:=k) (by omega)
  obtain ⟨hkl,hbe⟩:=List.getElem?_eq_some_iff.1 hb
  have hdr:p.drop k=b::p.drop (k+1):=by rw [List.drop_eq_getElem_cons hkl,hbe]
  rw [hdr] at heq
  have hpW:=hp.below hbW
  obtain ⟨ad,rfl⟩:=hpW.addr (by omega)
  have hbI:=low_i64 (hok.each b hbm)
  have hq0:=Int.ediv_nonneg hx0 (show (0:Int)≤2 by decide)
  have hq1:=Int.ediv_le_self 2 hx0
  refine rnT ?_
  refine TW.ld rfl (hpW.getI hb) ?_
  refine rnT ?_
  refine CW.condP rfl (fun h1=> ?_) (fun h1=> ?_)
  ·refine rnT ?_
   refine KW.rd (k+1,ix / 2,h) ⟨by omega,hbW,hq0,Int.le_trans hq1 hx1,hhI,?_,n,by omega,hLW⟩
   rw [←heq,climbS,if_pos h1]
  ·refine rnT ?_
   refine CW.pk [1,9,10,11,13,34,35,36,48] rfl ?_
   refine CW.condP rfl (fun h2=> ?_) (fun h2=> ?_)
   ·refine rnT ?_
    refine TW.buildSlice 3 _ rfl rfl rfl eo32 (Args.cons rfl ct (Args.cons rfl ct (Args.cons rfl ct Args.nil))) rfl rfl rfl rfl rfl ?_
    rintro g7 w7 f7
    have hg7:=f7.at_
    have hw7:=f7.size
    refine TW.call0 rfl rfl en216 rfl (Args.cons rfl ct Args.nil) (compute_c hLW f7.below (by omega) (lit_new [1,b,h] f7.blk rfl (three_i64 (low_i64 (by decide)) hbI hhI) (by simp)) (fun k hk=>by omega)) ?_
    rintro y w8 ⟨s8,b8,rfl,hL8⟩
    have q3:=hbW.step f7.below
    have b08:Below w.heap.size w w8:=⟨b8.os.trans q3.os,b8.tape.trans q3.tape,b8.output.trans q3.output,by have:=q3.size; omega,fun k hk=>(b8.block k hk).trans (q3.block k hk)⟩
    refine rnT ?_
    refine KW.rd (k+1,ix / 2,sumS [1,b,h]) ⟨by omega,b08,hq0,Int.le_trans hq1 hx1,sum_i64 _,?_,n+1,by omega,hL8⟩
    rw [←heq,climbS,if_neg h1,if_pos h2]
   ·refine rnT ?_
    refine TW.buildSlice 3 _ rfl rfl rfl eo32 (Args.cons rfl ct (Args.cons rfl ct (Args.cons rfl ct Args.nil))) rfl rfl rfl rfl rfl ?_
    rintro g7 w7 f7
    have hg7:=f7.at_
    have hw7:=f7.size
    refine TW.call0 rfl rfl en216 rfl (Args.cons rfl ct Args.nil) (compute_c hLW f7.below (by omega) (lit_new [1,h,b] f7.blk rfl (three_i64 (low_i64 (by decide)) hhI hbI) (by simp)) (fun k hk=>by omega)) ?_
    rintro y w8 ⟨s8,b8,rfl,hL8⟩
    have q3:=hbW.step f7.below
    have b08:Below w.heap.size w w8:=⟨b8.os.trans q3.os,b8.tape.trans q3.tape,b8.output.trans q3.output,by have:=q3.size; omega,fun k hk=>(b8.block k hk).trans (q3.block k hk)⟩
    refine rnT ?_
    refine KW.rd (k+1,ix / 2,sumS [1,h,b]) ⟨by omega,b08,hq0,Int.le_trans hq1 hx1,sum_i64 _,?_,n+1,by omega,hL8⟩
    rw [←heq,climbS,if_neg h1,if_neg h2]
 ·obtain ⟨_,v,xs,hB,hO,_⟩:=hLW
  obtain ⟨VA,vc,rfl,_⟩:=hO.form
  have hdr:p.drop k= []:=List.drop_eq_nil_of_le (by omega)
  rw [hdr] at heq
  refine rnT ?_
  refine CW.draw mixed (by kernel_rfl) ?_
  refine rnD ?_
  refine DW.ld rfl (hB.cell 0) ?_
  refine rnD ?_
  refine DW.fi [1,6,7,9,10,11,34,35,36] rfl fun w9 b9=> ?_
  refine rnT ?_
  refine rt2 rfl ⟨hbW.step b9,.inl ⟨hok,VA,n,vc,by rw [←heq]; rfl⟩⟩
theorem misplaced_c (h1:kv.oneCell'=true) (h2:pv.oneCell'=true) :
  Gives Tryz.prog 70 #[.agg (shV p kv pv).toArray] w fun u w'=>Below w.heap.size w w'∧u= .bool (!dec (PlaceOK p)):=by
 refine gv (f:=70) ?_
 refine rnT ?_
 refine TW.box rfl rfl rfl rfl ?_
 rintro g1 w1 f1
 refine rnT ?_
 refine TW.ld rfl (f1.blk.fld (j:=9) rfl) ?_
 refine TW.cl rfl (hisLab_c) ?_
 rintro y w2 ⟨b2,rfl⟩
 have hB2:=f1.blk.next b2
 refine rnT ?_
 refine TW.ld rfl (hB2.fld (j:=10) rfl) ?_
 refine rnT ?_
 refine TW.ld rfl (hB2.fld (j:=4) rfl) ?_
 refine TW.callF (cap:= []) rfl rfl en137 rfl ct (Args.cons rfl id (Args.cons rfl id Args.nil)) (fun _=>below_c) ?_
 rintro w3 b3
 refine rnT ?_
 refine rt1 rfl ⟨f1.below.step (b2.step b3),?_⟩
 by_cases hp:PlaceOK p
 ·rw [dec_pos hp,dec_pos hp.1]
  have:=hp.2
  simp
  omega
 ·rw [dec_neg hp]
  by_cases hl:isLab p.label
  ·have: ¬(0≤p.idx∧p.idx<p.doc.cnt):=fun q=>hp ⟨hl,q⟩
   rw [dec_pos hl]
   simp
   omega
  ·rw [dec_neg hl]
   rfl
theorem unproved_c (h1:kv.oneCell'=true) (hp:SL intT F w pv p.path) (hs:p.label.size≤1000000) (hi:I64 p.idx) :
  Gives Tryz.prog 71 #[.agg (shV p kv pv).toArray] w fun u w'=>Below w.heap.size w w'∧u= .bool (!dec (ProofOK p)):=by
 obtain ⟨A,cap,rfl,_⟩:=hp.form
 refine gv (f:=71) ?_
 refine rnT ?_
 refine TW.box rfl rfl rfl rfl ?_
 rintro g1 w1 f1
 refine rnT ?_
 refine TW.ld rfl (f1.blk.fld (j:=9) rfl) ?_
 refine rnT ?_
 refine TW.ld rfl (f1.blk.fld (j:=10) rfl) ?_
 refine rnT ?_
 refine TW.ld rfl (f1.blk.fld (j:=11) rfl) ?_
 refine TW.cl rfl (climb_c (hp.below f1.below) hs hi) ?_
 rintro y w2 ⟨b2,hres⟩
 have hB2:=f1.blk.next b2
 rcases hres with ⟨hok,VA,n,c,rfl⟩|⟨hno,rfl⟩
 ·skip
  refine rnT ?_
  refine TW.ld rfl (hB2.fld (j:=5) rfl) ?_
  refine rnT ?_
  refine rt1 rfl ⟨f1.below.step b2,?_⟩
  by_cases hr:climbS (leafS p.label) p.idx p.path=p.doc.root
  ·rw [dec_pos ⟨hok,hr⟩]
   simp [hr]
   omega
  ·rw [dec_neg fun h=>hr h.2]
   simp [hr]
 ·skip
  refine TW.v V.move rfl ⟨ct,trivial⟩ (fun _=>trivial) ?_
  refine TW.v V.extract rfl ⟨ct,trivial⟩ (fun _=>rfl) ?_
  refine TW.v V.extract rfl ⟨ct,trivial⟩ (fun _=>rfl) ?_
  refine TW.v V.assign rfl ⟨ct,trivial⟩ (fun _=>trivial) ?_
  refine TW.v V.assign rfl ⟨ct,trivial⟩ (fun _=>trivial) ?_
  refine TW.nil (KW.pick [0,1,2,3,4] [(0,_,_),(1,_,_),(2,_,_),(3,_,_),(4,_,_)] rfl (KW.then_ ?_))
  refine CW.seq (CW.region ?_)
  refine TW.v V.move rfl ⟨ct,trivial⟩ (fun _=>trivial) ?_
  refine TW.v V.lenSlice rfl ⟨ct,trivial⟩ (fun _=>trivial) ?_
  refine TW.v V.eql rfl ⟨ct,ct,trivial⟩ (fun _=>trivial) ?_
  refine TW.v V.move rfl ⟨ct,trivial⟩ (fun _=>trivial) ?_
  refine TW.dead (.bool false) rfl (by simp [Cnd]) rfl ?_
  refine TW.dead (.bool false) rfl (by simp [Cnd]) rfl ?_
  refine TW.dead (.bool false) rfl (by simp [Cnd]) rfl ?_
  refine TW.dead (.bool false) rfl (by simp [Cnd]) rfl ?_
  refine TW.dead (.bool false) rfl (by simp [Cnd]) rfl ?_
  refine TW.dead (.bool false) rfl (by simp [Cnd]) rfl ?_
  refine rnT ?_
  refine rt1 rfl ⟨f1.below.step b2,?_⟩
  rw [dec_neg fun h=>hno h.1]
  rfl
def rawT (n:Nat):Ty (List Value) where
 n:=n
 rep:=fun _ _ cs x=>cs=x∧x.length=n
 len:=fun _ _ _ _ h=>by rw [h.1]; exact h.2
 mono:=fun _ _ _ _ _ _ h=>h
 wider:=fun _ _ _ _ _ _ h=>h
theorem raw_get {m:Nat} {ad:Addr} {cap:Nat} {l:List (List Value)} (h:SL (rawT m) F w (.slice (some ad) n cap) l) {i:Nat} {s:List Value} (hx:l[i]?=some s):(∀j u,s[j]?=some u→w.cell? ((ad.add ((i:Int).toNat*m)).add j)=some u)∧s.length=m:=by
 obtain ⟨ad',cs,h1,_,⟨rfl,g1⟩,hc⟩:=h.at hx
 cases h1
 exact ⟨hc,g1⟩
theorem raw_lit {t:TypeId} {m:Nat} (h0:0<m) (l:List (List Value)) (h:Blk w g t (l.flatMap id)) (hn:n=l.length) (hl: ∀x∈l,x.length=m) (hs:l.length≤1000000):SL (rawT m) (fun k=>k<w.heap.size) w (.slice (some ⟨g,0,none⟩) n n) l:=by
 subst hn
 have e:(l.map fun x=>(x,x)).map (·.2)=l:=by
  rw [List.map_map]
  exact List.map_id l
 have hp: ∀p∈l.map fun x=>(x,x),(rawT m).rep (fun k=>k<w.heap.size) w p.1 p.2:=fun p hp=>by
  obtain ⟨x,hx,rfl⟩:=List.mem_map.1 hp
  exact ⟨rfl,hl x hx⟩
 have hB:OwnS w t m (.slice (some ⟨g,0,none⟩) l.length l.length) l.length ((l.map fun x=>(x,x)).flatMap (·.1)):=by
  rw [List.flatMap_map]
  exact OwnS.of_blk h (by
   rw [List.length_flatMap]
   have:l.map (fun a=>a.length)=l.map (fun _=>m):=List.map_congr_left fun x hx=>hl x hx
   show (l.map fun a=>a.length).sum=_
   rw [this,List.map_const',List.sum_replicate_nat]) (by omega)
 have:=OwnS.toSLp (T:=rawT m) (F:=fun k=>k<w.heap.size) (l.map fun x=>(x,x)) hp h0 hB (by simp) (fun q hq=>by simp [Value.ownBlock] at hq; subst hq; exact h.lt) (by simp; omega)
 rw [e] at this
 exact this
def errL:List (Bool×Int)→Int
 | []=>0
 | (b,e)::r=>if b then e else errL r
theorem errL_app {pre:List (Bool×Int)} {r:List (Bool×Int)} (h: ∀q∈pre,q.1=false):errL (pre++r)=errL r:=by
 induction pre with
 | nil=>rfl
 | cons x pre ih =>
  show (if x.1=true then x.2 else errL (pre++r))=errL r
  rw [h x (by simp),if_neg (by simp)]
  exact ih fun q hq=>h q (by simp [hq])
theorem firstError_c {rs:List (Value×Bool×Int)} (h:SL (rawT 2) F w v (rs.map fun r=> [r.1,.int .i64 r.2.2])) (hone: ∀r∈rs,r.1.oneCell'=true)
 (hc: ∀pre r suf W,rs=pre++r::suf→(∀q∈pre,q.2.1=false)→Below w.heap.size w W→Thk Tryz.prog r.1 [] W fun u W'=>Below W.heap.size W W'∧u= .bool r.2.1) :
  Gives Tryz.prog 67 #[v] w fun u w'=>Below w.heap.size w w'∧u= .int .i64 (errL (rs.map (·.2))):=by
 obtain ⟨A,cap,hv,_⟩:=h.form
 rw [List.length_map] at hv
 subst hv
 have hmax:=h.len.2.2
 rw [List.length_map] at hmax
 refine gv (f:=67) ?_
 refine rnT ?_
 refine CW.lp [5,6] (fun i:Nat=> [(7,none,.int .i64 (i:Int))])
  (fun i W=>i≤rs.length∧Below w.heap.size w W∧ ∀q∈rs.take i,q.2.1=false) (fun i=>rs.length-i) 0 ⟨Nat.zero_le _,Below.refl _ _,by simp⟩ ?_
 rintro i W ⟨hi,hB,hno⟩
 refine rnT ?_
 refine CW.condP rfl (fun hlt=> ?_) (fun hge=> ?_)
 ·obtain ⟨r,hr,hrm⟩:=getx (l:=rs) (k:=i) (by omega)
  obtain ⟨hil,hie⟩:=List.getElem?_eq_some_iff.1 hr
  have hW:=h.below hB
  obtain ⟨ad,rfl⟩:=hW.addr (by rw [List.length_map]; omega)
  have hx:(rs.map fun r=> [r.1,Value.int .i64 r.2.2])[i]?=some [r.1,.int .i64 r.2.2]:=by rw [List.getElem?_map,hr]; rfl
  have hcx:=(raw_get hW hx).1
  refine rnT ?_
  refine TW.ldS rfl (fun j u hj=>hcx j u hj) ?_
  refine TW.newVar rfl zc120 rfl sz120 rfl (by rw [List.all_cons,hone r hrm]; rfl) ?_
  rintro g4 w4 f4
  refine rnT ?_
  have hb4:=hB.step f4.below
  obtain ⟨k,fst,cp,hv,hen,hg⟩:=hc (rs.take i) r (rs.drop (i+1)) w4 (by rw [←hie,←List.drop_eq_getElem_cons hil,List.take_append_drop]) hno hb4
  refine TW.ld rfl (f4.blk.fld (j:=0) (congrArg some hv)) ?_
  refine TW.callB rfl rfl hen rfl Args.nil hg ?_
  rintro u w5 ⟨b5,rfl⟩
  refine rnT ?_
  have hb5:=hb4.step b5
  refine CW.cond rfl (fun hyes=> ?_) (fun hnot=> ?_)
  ·refine rnT ?_
   refine TW.ld rfl ((f4.blk.next b5).fld (j:=1) rfl) ?_
   refine rnT ?_
   refine rt1 rfl ⟨hb5,?_⟩
   have e:rs=rs.take i++r::rs.drop (i+1):=by rw [←hie,←List.drop_eq_getElem_cons hil,List.take_append_drop]
   rw [e,List.map_append,errL_app fun q hq=> ?_]
   ·rw [List.map_cons]
    unfold errL
    rw [if_pos hyes]
   ·obtain ⟨z,hz,rfl⟩:=List.mem_map.1 hq
    exact hno z hz
  ·refine rnT ?_
   refine KW.rd (i+1) ⟨by omega,hb5,fun q hq=> ?_⟩
   rw [List.take_add_one,hr] at hq
   rcases List.mem_append.1 hq with hq|hq
   ·exact hno q hq
   ·simp at hq
    subst hq
    simpa using hnot
 ·refine rnT ?_
  refine rt1 rfl ⟨hB,?_⟩
  rw [List.take_of_length_le (by omega)] at hno
  have:=errL_app (pre:=rs.map (·.2)) (r:= []) fun q hq=>by
   obtain ⟨z,hz,rfl⟩:=List.mem_map.1 hq
   exact hno z hz
  rw [List.append_nil] at this
  rw [this]
  rfl
theorem Blk.subp {t:TypeId} {cs:List Value} (h:Blk w g t cs) (k:Nat) (ds r:List Value) (hk:cs.drop k=ds++r): ∀j v,ds[j]?=some v→w.cell? ((Addr.add ⟨g,0,none⟩ k).add j)=some v:=fun j v hj=>Blk.sub h k (ds++r) hk j v (by rw [List.getElem?_append_left (List.getElem?_eq_some_iff.1 hj).1]; exact hj)
theorem ver_err:errL [(!dec (DocOK ks p.doc),1),(!dec (SignOK ks p.doc),330),(!dec (PlaceOK p),1),(!dec (ProofOK p),190)]=verS ks p:=by
 unfold verS errL errL errL errL errL
 by_cases h1:DocOK ks p.doc
 ·rw [dec_pos h1,if_neg (not_not_intro h1)]
  by_cases h2:SignOK ks p.doc
  ·rw [dec_pos h2,if_neg (not_not_intro h2)]
   by_cases h3:PlaceOK p
   ·rw [dec_pos h3,if_neg (not_not_intro h3)]
    by_cases h4:ProofOK p
    ·rw [dec_pos h4,if_neg (not_not_intro h4)]
     rfl
    ·rw [dec_neg h4,if_pos h4]
     rfl
   ·rw [dec_neg h3,if_pos h3]
    rfl
  ·rw [dec_neg h2,if_pos h2]
   rfl
 ·rw [dec_neg h1,if_pos h1]
  rfl
theorem verify_c {G:Nat→Prop} (hk:SL intT F w kv ks) (hp:SL intT G w pv p.path) (hd:DcOK p.doc) (hi:I64 p.idx) :
  Gives Tryz.prog 25 #[kv,.agg (ppV p pv).toArray] w fun u w'=>Below w.heap.size w w'∧u= .int .i64 (verS ks p):=by
 obtain ⟨KA,kc,rfl,_⟩:=hk.form
 obtain ⟨PA,pc,rfl,_⟩:=hp.form
 refine gv (f:=25) ?_
 refine rnT ?_
 refine TW.box rfl rfl rfl rfl ?_
 rintro g1 w1 f1
 refine rnT ?_
 have hB1:=f1.blk
 refine TW.ldS rfl (fun j u hj=>Blk.subp hB1 0 (dcV p.doc) _ rfl j u hj) ?_
 refine rnT ?_
 refine TW.build [0,1] _ (sgV p.doc (.slice KA ks.length kc)) rfl rfl rfl (Args.cons rfl ct (Args.cons rfl ct Args.nil)) (by kernel_rfl) ?_
 refine rnT ?_
 refine TW.ld rfl (hB1.fld (j:=8) rfl) ?_
 refine rnT ?_
 refine TW.ldS rfl (fun j u hj=>Blk.subp hB1 9 [.int .i64 p.idx,.slice PA p.path.length pc] [] rfl j u hj) ?_
 refine TW.build [0,1,2] _ (shV p (.slice KA ks.length kc) (.slice PA p.path.length pc)) rfl rfl rfl (Args.cons rfl ct (Args.cons rfl ct (Args.cons rfl ct Args.nil))) (by kernel_rfl) ?_
 refine TW.newVar rfl zc117 rfl sz117 rfl rfl ?_
 rintro g5 w5 f5
 refine rnT ?_
 have hB5:=f5.blk
 refine TW.ldS rfl (fun j u hj=>Blk.subp hB5 0 (sgV p.doc (.slice KA ks.length kc)) _ rfl j u hj) ?_
 refine TW.makeFuncB rfl rfl (Args.cons rfl ct Args.nil) Args.nil ?_
 refine TW.build [0,1] _ [.func (.func 68) #[.agg (sgV p.doc (.slice KA ks.length kc)).toArray] #[],.int .i64 1] rfl rfl rfl (Args.cons rfl ct (Args.cons rfl ct Args.nil)) (by kernel_rfl) ?_
 refine rnT ?_
 refine TW.ldS rfl (fun j u hj=>Blk.subp hB5 0 (sgV p.doc (.slice KA ks.length kc)) _ rfl j u hj) ?_
 refine TW.makeFuncB rfl rfl (Args.cons rfl ct Args.nil) Args.nil ?_
 refine TW.build [0,1] _ [.func (.func 69) #[.agg (sgV p.doc (.slice KA ks.length kc)).toArray] #[],.int .i64 330] rfl rfl rfl (Args.cons rfl ct (Args.cons rfl ct Args.nil)) (by kernel_rfl) ?_
 refine TW.ldS rfl (fun _ _ hv=>hB5.fld hv) ?_
 refine TW.makeFuncB rfl rfl (Args.cons rfl ct Args.nil) Args.nil ?_
 refine TW.build [0,1] _ [.func (.func 70) #[.agg (shV p (.slice KA ks.length kc) (.slice PA p.path.length pc)).toArray] #[],.int .i64 1] rfl rfl rfl (Args.cons rfl ct (Args.cons rfl ct Args.nil)) (by kernel_rfl) ?_
 refine TW.ldS rfl (fun _ _ hv=>hB5.fld hv) ?_
 refine TW.makeFuncB rfl rfl (Args.cons rfl ct Args.nil) Args.nil ?_
 refine TW.build [0,1] _ [.func (.func 71) #[.agg (shV p (.slice KA ks.length kc) (.slice PA p.path.length pc)).toArray] #[],.int .i64 190] rfl rfl rfl (Args.cons rfl ct (Args.cons rfl ct Args.nil)) (by kernel_rfl) ?_
 refine TW.buildSlice 120 _ rfl rfl rfl eo202 (Args.cons rfl ct (Args.cons rfl ct (Args.cons rfl ct (Args.cons rfl ct Args.nil)))) rfl rfl rfl rfl rfl ?_
 rintro g6 w6 f6
 have b6:=f1.below.step (f5.below.step f6.below)
 have hk6:=hk.below b6
 have hp6:=hp.below b6
 have hS:=raw_lit (m:=2) (by decide) [[.func (.func 68) #[.agg (sgV p.doc (.slice KA ks.length kc)).toArray] #[],.int .i64 1],[.func (.func 69) #[.agg (sgV p.doc (.slice KA ks.length kc)).toArray] #[],.int .i64 330],[.func (.func 70) #[.agg (shV p (.slice KA ks.length kc) (.slice PA p.path.length pc)).toArray] #[],.int .i64 1],[.func (.func 71) #[.agg (shV p (.slice KA ks.length kc) (.slice PA p.path.length pc)).toArray] #[],.int .i64 190]] f6.blk rfl (by simp) (by simp)
 obtain ⟨rs,hrs⟩: ∃rs:List (Value×Bool×Int),rs= [(.func (.func 68) #[.agg (sgV p.doc (.slice KA ks.length kc)).toArray] #[],!dec (DocOK ks p.doc),1),(.func (.func 69) #[.agg (sgV p.doc (.slice KA ks.length kc)).toArray] #[],!dec (SignOK ks p.doc),330),(.func (.func 70) #[.agg (shV p (.slice KA ks.length kc) (.slice PA p.path.length pc)).toArray] #[],!dec (PlaceOK p),1),(.func (.func 71) #[.agg (shV p (.slice KA ks.length kc) (.slice PA p.path.length pc)).toArray] #[],!dec (ProofOK p),190)]:=⟨_,rfl⟩
 have hcc: ∀pre r suf W,rs=pre++r::suf→(∀q∈pre,q.2.1=false)→Below w6.heap.size w6 W→Thk Tryz.prog r.1 [] W fun u W'=>Below W.heap.size W W'∧u= .bool r.2.1:=by
  intro pre r suf W hcut hpre hbW
  have hkW:=hk6.below hbW
  have hpW:=hp6.below hbW
  rw [hrs] at hcut
  have isT: ∀ {b:Bool},(!b)=false→b=true:=fun h=>by simpa using h
  rcases pre with _|⟨a1,_|⟨a2,_|⟨a3,_|⟨a4,pre⟩⟩⟩⟩<;>simp at hcut
  ·obtain ⟨rfl,_⟩:=hcut
   exact ⟨_,[_],[],rfl,en68,malformed_c hkW hd⟩
  ·obtain ⟨rfl,rfl,_⟩:=hcut
   have h1:=dec_iff.1 (isT (hpre _ (.head _)))
   exact ⟨_,[_],[],rfl,en69,forged_c hkW hd h1⟩
  ·obtain ⟨rfl,rfl,rfl,_⟩:=hcut
   exact ⟨_,[_],[],rfl,en70,misplaced_c rfl rfl⟩
  ·obtain ⟨rfl,rfl,rfl,rfl,_⟩:=hcut
   have h3:=dec_iff.1 (isT (hpre _ (.tail _ (.tail _ (.head _)))))
   exact ⟨_,[_],[],rfl,en71,unproved_c rfl hpW (by have:=h3.1.2.1; omega) hi⟩
 refine TW.cl rfl (firstError_c (rs:=rs) (by rw [hrs]; exact hS) (by rw [hrs]; simp [Value.oneCell']) hcc) ?_
 rintro y w7 ⟨b7,rfl⟩
 refine rnT ?_
 refine rt1 rfl ⟨b6.step b7,by rw [hrs,←ver_err]; rfl⟩
theorem passes_c {PA:Option Addr} {pc:Nat} {rs:List (Value×Bool)} (h:SL (rawT 1) F w v (rs.map fun r=> [r.1]))
 (hc: ∀r∈rs,∀W,Below w.heap.size w W→Thk Tryz.prog r.1 [.agg (ppV p (.slice PA p.path.length pc)).toArray] W fun u W'=>Below W.heap.size W W'∧u= .bool r.2) :
  Gives Tryz.prog 51 #[.agg (ppV p (.slice PA p.path.length pc)).toArray,v] w fun u w'=>Below w.heap.size w w'∧u= .bool (rs.all (·.2)):=by
 obtain ⟨A,cap,hv,_⟩:=h.form
 rw [List.length_map] at hv
 subst hv
 have hmax:=h.len.2.2
 rw [List.length_map] at hmax
 refine gv (f:=51) ?_
 refine rnT ?_
 refine TW.box rfl rfl rfl rfl ?_
 rintro g2 w2 f2
 refine rnT ?_
 refine CW.lp [2,7,8] (fun i:Nat=> [(9,none,.int .i64 (i:Int))])
  (fun i W=>i≤rs.length∧Below w2.heap.size w2 W∧(rs.take i).all (·.2)=true) (fun i=>rs.length-i) 0 ⟨Nat.zero_le _,Below.refl _ _,rfl⟩ ?_
 rintro i W ⟨hi,hB,hall⟩
 refine rnT ?_
 have hb:=f2.below.step hB
 refine CW.condP rfl (fun hlt=> ?_) (fun hge=> ?_)
 ·obtain ⟨r,hr,hrm⟩:=getx (l:=rs) (k:=i) (by omega)
  have hW:=h.below hb
  obtain ⟨ad,rfl⟩:=hW.addr (by rw [List.length_map]; omega)
  have hx:(rs.map fun r=> [r.1])[i]?=some [r.1]:=by rw [List.getElem?_map,hr]; rfl
  have hcx:=(raw_get hW hx).1 0 r.1 rfl
  obtain ⟨k,fst,cp,hv,hen,hg⟩:=hc r hrm W hb
  rw [hv] at hcx
  have hBW:=f2.blk.next hB
  refine rnT ?_
  refine TW.ld rfl hcx ?_
  refine rnT ?_
  refine TW.ldS rfl (fun _ _ hv=>hBW.fld hv) ?_
  refine TW.callB rfl rfl hen rfl (Args.cons rfl ct Args.nil) hg ?_
  rintro u w5 ⟨b5,rfl⟩
  refine rnT ?_
  refine CW.pk [2,6,7,8,9,16] rfl ?_
  refine CW.cond rfl (fun hyes=> ?_) (fun hnot=> ?_)
  ·refine rnT ?_
   refine rt1 rfl ⟨hb.step b5,?_⟩
   cases hq:rs.all (·.2) with
   | false=>rfl
   | true =>
    have:=List.all_eq_true.1 hq r hrm
    rw [this] at hyes
    cases hyes
  ·refine rnT ?_
   refine KW.rd (i+1) ⟨by omega,hB.step b5,?_⟩
   rw [List.take_add_one,hr,List.all_append,hall]
   simpa using hnot
 ·refine rnT ?_
  refine rt1 rfl ⟨hb,?_⟩
  rw [List.take_of_length_le (by omega)] at hall
  rw [hall]
theorem exc1_c (h:Blk w g 9 [.string lab]) (h1:pv.oneCell'=true):Gives Tryz.prog 52 #[.agg (ppV p pv).toArray,.pointer (some ⟨g,0,none⟩)] w fun u w'=>Below w.heap.size w w'∧u= .bool (decide (p.label=lab)):=by
 refine gv (f:=52) ?_
 refine rnT ?_
 refine TW.box rfl rfl rfl rfl ?_
 rintro g2 w2 f2
 refine rnT ?_
 refine TW.ld rfl (f2.blk.fld (j:=8) rfl) ?_
 refine TW.ld rfl ((h.next f2.below).cell 0) ?_
 refine rnT ?_
 refine rt1 rfl ⟨f2.below,by rw [beqL]⟩
theorem exc2_c (h:Blk w g 3 [.int .i64 op]) (h1:pv.oneCell'=true):Gives Tryz.prog 53 #[.agg (ppV p pv).toArray,.pointer (some ⟨g,0,none⟩)] w fun u w'=>Below w.heap.size w w'∧u= .bool (decide (p.doc.fr=op∧p.doc.to≠op)):=by
 refine gv (f:=53) ?_
 refine rnT ?_
 refine TW.box rfl rfl rfl rfl ?_
 rintro g2 w2 f2
 refine rnT ?_
 refine TW.ld rfl (f2.blk.fld (j:=1) rfl) ?_
 refine TW.ld rfl ((h.next f2.below).cell 0) ?_
 refine rnT ?_
 refine TW.ld rfl (f2.blk.fld (j:=2) rfl) ?_
 refine TW.ld rfl ((h.next f2.below).cell 0) ?_
 refine rnT ?_
 refine rt1 rfl ⟨f2.below,by simp⟩
theorem exc3_c (h:Blk w g 3 [.int .i64 t]) (h1:pv.oneCell'=true):Gives Tryz.prog 54 #[.agg (ppV p pv).toArray,.pointer (some ⟨g,0,none⟩)] w fun u w'=>Below w.heap.size w w'∧u= .bool (decide (p.doc.time≤t)):=by
 refine gv (f:=54) ?_
 refine rnT ?_
 refine TW.box rfl rfl rfl rfl ?_
 rintro g2 w2 f2
 refine rnT ?_
 refine TW.ld rfl (f2.blk.fld (j:=3) rfl) ?_
 refine TW.ld rfl ((h.next f2.below).cell 0) ?_
 refine rnT ?_
 refine rt1 rfl ⟨f2.below,rfl⟩
theorem exc4_c {G:Nat→Prop} (h:Blk w g 32 [kv]) (hk:SL intT F w kv ks) (hp:SL intT G w pv p.path) (hd:DcOK p.doc) (hi:I64 p.idx):Gives Tryz.prog 55 #[.agg (ppV p pv).toArray,.pointer (some ⟨g,0,none⟩)] w fun u w'=>Below w.heap.size w w'∧u= .bool (decide (verS ks p=0)):=by
 obtain ⟨PA,pc,rfl,_⟩:=hp.form
 obtain ⟨KA,kc,rfl,_⟩:=hk.form
 refine gv (f:=55) ?_
 refine rnT ?_
 refine TW.box rfl rfl rfl rfl ?_
 rintro g2 w2 f2
 refine rnT ?_
 refine TW.ld rfl ((h.next f2.below).cell 0) ?_
 refine TW.ldS rfl (fun _ _ hv=>f2.blk.fld hv) ?_
 refine TW.cl rfl (verify_c (hk.below f2.below) (hp.below f2.below) hd hi) ?_
 rintro y w3 ⟨b3,rfl⟩
 refine rnT ?_
 refine rt1 rfl ⟨f2.below.step b3,rfl⟩
def ppT:Ty Pp where
 n:=11
 rep:=fun F w cs p=> ∃pv,cs=ppV p pv∧DcOK p.doc∧I64 p.idx∧SL intT F w pv p.path
 len:=fun _ _ _ _ h=>by obtain ⟨v,h,_⟩:=h; rw [h]; rfl
 mono:=fun _ _ _ _ _ hk h=>by obtain ⟨v,h,h1,h2,hs⟩:=h; exact ⟨v,h,h1,h2,hs.mono hk⟩
 wider:=fun _ _ _ _ _ hF h=>by obtain ⟨v,h,h1,h2,hs⟩:=h; exact ⟨v,h,h1,h2,hs.wider hF⟩
theorem ppT_now:Ty.Now ppT:=⟨by decide,fun F w cs e ⟨v,h,h1,h2,hs⟩=>⟨v,h,h1,h2,hs.now intT_now⟩⟩
abbrev SPp (w:World) (v:Value) (l:List Pp):Prop:=SL ppT (fun k=>k<w.heap.size) w v l
theorem spp_step {w':World} {l:List Pp} (h:SPp w v l) (hb:Below w.heap.size w w'):SPp w' v l:=h.step ppT_now hb
theorem SPp.get {ad:Addr} {cap:Nat} {l:List Pp} (h:SL ppT F w (.slice (some ad) n cap) l) {i:Nat} (hx:l[i]?=some p) :
  ∃ v,(∀j u,(ppV p v)[j]?=some u→w.cell? ((ad.add ((i:Int).toNat*11)).add j)=some u)∧DcOK p.doc∧I64 p.idx∧SL intT F w v p.path:=by
 obtain ⟨ad',cs,h1,_,⟨v,rfl,g1,g2,hs⟩,hc⟩:=h.at hx
 cases h1
 exact ⟨v,hc,g1,g2,hs⟩
theorem frees_bool:(decide (p.label=lab)&&(decide (p.doc.fr=op∧p.doc.to≠op)&&(decide (p.doc.time≤t)&&(decide (verS ks p=0)&&true))))=dec (Frees ks lab op t p):=by
 by_cases h:Frees ks lab op t p
 ·rw [dec_pos h]
  obtain ⟨h1,h2,h3,h4,h5⟩:=h
  simp [h1,h2,h3,h4,h5]
 ·rw [dec_neg h,Bool.eq_false_iff]
  intro hq
  simp only [Bool.and_eq_true,decide_eq_true_eq,and_true] at hq
  exact h ⟨hq.1,hq.2.1.1,hq.2.1.2,hq.2.2.1,hq.2.2.2⟩
theorem excused_c {psv:Value} {ps:List Pp} (hk:SL intT F w kv ks) (hps:SPp w psv ps) :
  Gives Tryz.prog 18 #[kv,psv,.string lab,.int .i64 op,.int .i64 t] w fun u w'=>Below w.heap.size w w'∧u= .bool (dec (Exc ks ps lab op t)):=by
 obtain ⟨KA,kc,rfl,_⟩:=hk.form
 obtain ⟨A,cap,rfl,_⟩:=hps.form
 have hmax:=hps.len.2.2
 refine gv (f:=18) ?_
 refine rnT ?_
 refine TW.box rfl rfl rfl rfl ?_
 rintro g5 w1 f1
 refine TW.box rfl rfl rfl rfl ?_
 rintro g7 w2 f2
 refine TW.box rfl rfl rfl rfl ?_
 rintro g8 w3 f3
 refine TW.box rfl rfl rfl rfl ?_
 rintro g9 w4 f4
 refine rnT ?_
 have b34:=f4.below
 have b24:=f3.below.step b34
 have b14:=f2.below.step b24
 have b4:=f1.below.step b14
 have hB5:=f1.blk.next b14
 have hB7:=f2.blk.next b24
 have hB8:=f3.blk.next b34
 have hB9:=f4.blk
 refine CW.condP rfl (fun hbig=> ?_) (fun hsmall=> ?_)
 ·refine rnT ?_
  refine rt1 rfl ⟨b4,by rw [dec_neg fun h=>by have:=h.1; omega]⟩
 have h100:ps.length≤100:=by omega
 refine rnT ?_
 refine CW.lp [5,7,8,9,16,17] (fun i:Nat=> [(18,none,.int .i64 (i:Int))])
  (fun i W=>i≤ps.length∧Below w4.heap.size w4 W∧ ∀p∈ps.take i,¬Frees ks lab op t p) (fun i=>ps.length-i) 0 ⟨Nat.zero_le _,Below.refl _ _,by simp⟩ ?_
 rintro i W ⟨hi,hB,hno⟩
 have hb:=b4.step hB
 refine rnT ?_
 refine CW.condP rfl (fun hlt=> ?_) (fun hge=> ?_)
 ·obtain ⟨p,hp,hpm⟩:=getx (l:=ps) (k:=i) (by omega)
  have hW:=spp_step hps hb
  obtain ⟨ad,rfl⟩:=hW.addr (by omega)
  obtain ⟨pv,hcells,hd,hix,hpath⟩:=SPp.get hW hp
  obtain ⟨PA,pc,rfl,_⟩:=hpath.form
  refine rnT ?_
  refine TW.ldS rfl (fun j u hj=>hcells j u hj) ?_
  refine TW.newVar rfl zc67 rfl sz67 rfl rfl ?_
  rintro g12 w6 f6
  refine rnT ?_
  have hb6:=hB.step f6.below
  have b6:=hb.step f6.below
  refine TW.ldS rfl (fun _ _ hv=>f6.blk.fld hv) ?_
  refine TW.makeFunc rfl rfl (Args.cons rfl ct Args.nil) ?_
  refine TW.makeFunc rfl rfl (Args.cons rfl ct Args.nil) ?_
  refine TW.makeFunc rfl rfl (Args.cons rfl ct Args.nil) ?_
  refine TW.makeFunc rfl rfl (Args.cons rfl ct Args.nil) ?_
  refine TW.buildSlice 175 _ rfl rfl rfl eo174 (Args.cons rfl ct (Args.cons rfl ct (Args.cons rfl ct (Args.cons rfl ct Args.nil)))) rfl rfl rfl rfl rfl ?_
  rintro g27 w7 f7
  have hb7:=hb6.step f7.below
  have b7:=b6.step f7.below
  obtain ⟨rs,hrs⟩: ∃rs:List (Value×Bool),rs= [(.func (.func 52) #[] #[.pointer (some ⟨g7,0,none⟩)],decide (p.label=lab)),(.func (.func 53) #[] #[.pointer (some ⟨g8,0,none⟩)],decide (p.doc.fr=op∧p.doc.to≠op)),(.func (.func 54) #[] #[.pointer (some ⟨g9,0,none⟩)],decide (p.doc.time≤t)),(.func (.func 55) #[] #[.pointer (some ⟨g5,0,none⟩)],decide (verS ks p=0))]:=⟨_,rfl⟩
  have hS:=raw_lit (m:=1) (by decide) [[.func (.func 52) #[] #[.pointer (some ⟨g7,0,none⟩)]],[.func (.func 53) #[] #[.pointer (some ⟨g8,0,none⟩)]],[.func (.func 54) #[] #[.pointer (some ⟨g9,0,none⟩)]],[.func (.func 55) #[] #[.pointer (some ⟨g5,0,none⟩)]]] f7.blk rfl (by simp) (by simp)
  have hp7:SL intT (fun k=>k<W.heap.size) w7 (.slice PA p.path.length pc) p.path:=hpath.below (f6.below.step f7.below)
  have hk7:=hk.below b7
  have hcc: ∀r∈rs,∀W2,Below w7.heap.size w7 W2→Thk Tryz.prog r.1 [.agg (ppV p (.slice PA p.path.length pc)).toArray] W2 fun u W'=>Below W2.heap.size W2 W'∧u= .bool r.2:=by
   intro r hr W2 hbW
   have hb2:=hb7.step hbW
   rw [hrs] at hr
   simp only [List.mem_cons,List.not_mem_nil,or_false] at hr
   rcases hr with rfl|rfl|rfl|rfl
   ·exact ⟨_,[],[_],rfl,en52,exc1_c (hB7.next hb2) rfl⟩
   ·exact ⟨_,[],[_],rfl,en53,exc2_c (hB8.next hb2) rfl⟩
   ·exact ⟨_,[],[_],rfl,en54,exc3_c (hB9.next hb2) rfl⟩
   ·exact ⟨_,[],[_],rfl,en55,exc4_c (hB5.next hb2) (hk7.below hbW) (hp7.below hbW) hd hix⟩
  refine TW.cl rfl (passes_c (rs:=rs) (by rw [hrs]; exact hS) hcc) ?_
  rintro y w8 ⟨b8,rfl⟩
  have hall:rs.all (·.2)=dec (Frees ks lab op t p):=by rw [hrs]; exact frees_bool
  rw [hall]
  refine rnT ?_
  refine CW.pk [5,7,8,9,12,16,17,18,28] rfl ?_
  refine CW.cond rfl (fun hyes=> ?_) (fun hnot=> ?_)
  ·refine rnT ?_
   refine rt1 rfl ⟨b7.step b8,by rw [dec_pos ⟨h100,p,hpm,dec_iff.1 hyes⟩]⟩
  ·refine rnT ?_
   refine KW.rd (i+1) ⟨by omega,hb7.step b8,fun q hq=> ?_⟩
   rw [List.take_add_one,hp] at hq
   rcases List.mem_append.1 hq with hq|hq
   ·exact hno q hq
   ·simp at hq
    subst hq
    intro hf
    rw [dec_pos hf] at hnot
    cases hnot
 ·refine rnT ?_
  refine rt1 rfl ⟨hb,?_⟩
  rw [List.take_of_length_le (by omega)] at hno
  rw [dec_neg]
  rintro ⟨_,p,hp,hf⟩
  exact hno p hp hf
def KeysAre (w:World) (b:Nat) (S:Int→Prop):Prop:= ∃m,MapL intK w b m∧ ∀x,x∈m.map (·.1)↔S x
theorem kept_map {W:World} {b:Nat} {m:List (Int×Value)} (hm:MapL intK w b m) (hB:But b w W):Kept F w W:=fun p v _ hc=>by
 by_cases e:p.block=b
 ·obtain ⟨⟨es,cl,hh,_⟩,_⟩:=hm
  unfold World.cell? at hc
  rw [e,hh] at hc
  cases hc
 ·exact (World.cell?_of_block (hB.block p.block (block_lt_of_cell hc) (fun h=>e (by cases h; rfl)))).trans hc
theorem poss_len {d:Dist}:(possS N d l ws t).length≤52:=by
 unfold possS
 split
 ·rename_i h
  have hp:PossOK N d l ws.length t:=dec_iff.1 h
  have h1:=hp.sound.cons.offs.few
  have h2:=hp.sound.cons.lines.few
  unfold spotsS
  rw [List.length_map]
  have:=List.length_filter_le (fun p=>canB d (restsS l ws) p.2) (plsS N t)
  have:=plsS_len N t
  omega
 ·simp
theorem hold_rng {d:Dist} {x:Int} (h:x∈holdS N d l ws t):0≤x∧x≤6:=by
 obtain ⟨s,hs,rfl⟩:=hold_mem.1 h
 have hp:PossOK N d l ws.length t:=by
  unfold possS at hs
  split at hs
  ·rename_i hq
   exact dec_iff.1 hq
  ·cases hs
 have hr:=own_rng hp.sound.cons (poss_ok.1 s hs)
 have:=hp.sound.cons.ops.few
 omega
theorem holders_c {v:NV} {d:Dist} (ht:Tabs w) (hN:NetAt w v N) (hd:SD w dv d) (hl:SE w lv l) (hS:SD w wv ws) (hne: ∀e∈l,e.needs.length≤1000000) :
  Gives Tryz.prog 16 #[.agg v.cells.toArray,dv,lv,wv,.int .i64 t] w fun u w'=>Below w.heap.size w w'∧SI w' u (holdS N d l ws t):=by
 have hform:=NetIn.form hN
 have hone:(v.cells.all fun x=>x.oneCell')=true:=by
  obtain ⟨⟨A1,c1,e1⟩,⟨A2,c2,e2⟩,⟨A3,c3,e3⟩,⟨A4,c4,e4⟩,⟨A5,c5,e5⟩,⟨A6,c6,e6⟩⟩:=hform
  simp only [NV.cells,e1,e2,e3,e4,e5,e6]
  rfl
 refine gv (f:=16) ?_
 refine rnT ?_
 refine TW.box rfl rfl rfl rfl ?_
 rintro g5 w1 f1
 refine rnT ?_
 refine TW.makeMapL intK rfl rfl ?_
 rintro b w2 hbw hw2 hb2 hM2
 refine rnT ?_
 have b2:=f1.below.step hb2
 have hV2:=f1.blk.next hb2
 refine TW.ldS rfl (fun _ _ hv=>hV2.fld hv) ?_
 refine rnT ?_
 refine TW.cl rfl (possible_c (ht.below b2) (net_step hN b2) (sd_step hd b2) (se_step hl b2) (sd_step hS b2) hne) ?_
 rintro y w3 ⟨b3,hP3⟩
 have hM3:=hM2.below b3
 have hV3:=hV2.next b3
 have c3:=b2.step b3
 have hg5:=f1.at_
 have hw1:=f1.size
 have hs3:=b3.size
 obtain ⟨A,cap,rfl,_⟩:=hP3.form
 have hmax:=hP3.len.2.2
 obtain ⟨P,hPe⟩: ∃P,P=possS N d l ws t:=⟨_,rfl⟩
 rw [←hPe] at hP3 hmax ⊢
 refine rnT ?_
 refine CW.lp [5,11,22,23] (fun i:Nat=> [(24,none,.int .i64 (i:Int))])
  (fun i W=>i≤P.length∧But b w3 W∧w3.heap.size≤W.heap.size∧KeysAre W b (fun x=> ∃s∈P.take i,ownS N s=x)) (fun i=>P.length-i) 0 ⟨Nat.zero_le _,But.of_below (Below.refl _ _),Nat.le_refl _,[],hM3,by simp⟩ ?_
 rintro i W ⟨hi,hbut,hsz,m,hm,hmk⟩
 have hbW:Below w1.heap.size w1 W:=But.below (hb2.step b3) hbut (by omega)
 have hbW0:=f1.below.step hbW
 refine rnT ?_
 refine CW.condP rfl (fun hlt=> ?_) (fun hge=> ?_)
 ·obtain ⟨s,hs,hsm⟩:=getx (l:=P) (k:=i) (by omega)
  have hPW:SPs W (.slice A P.length cap) P:=(hP3.mono (kept_map hM3 hbut)).wider fun k hk=>by omega
  obtain ⟨ad,rfl⟩:=hPW.addr (by omega)
  have hcx:=(SPs.get hPW hs).1
  have hVW:=hbut.blk hV3 (by omega)
  refine rnT ?_
  refine TW.ldS rfl (fun j u hj=>hcx j u hj) ?_
  refine TW.newVar rfl zc58 rfl sz58 rfl rfl ?_
  rintro g13 w4 f4
  refine rnT ?_
  have hV4:=hVW.next f4.below
  have b4:=hbW0.step f4.below
  refine TW.ldS rfl (fun _ _ hv=>hV4.fld hv) ?_
  refine TW.ldS rfl (fun _ _ hv=>f4.blk.fld hv) ?_
  refine TW.cl rfl (owner_c (s:=s) (ht.below b4) (net_step hN b4)) ?_
  rintro y w5 ⟨b5,rfl⟩
  have hm5:=(hm.below f4.below).below b5
  refine TW.mapUpdateL intK (ownS N s) (vz:= .bool true) rfl Tryz.underlying93 rfl rfl rfl hm5 ?_
  rintro w6 hs6 hbut6 hM6
  refine rnT ?_
  have s4:=f4.size
  have a4:=f4.at_
  have s5:=b5.size
  refine KW.rd (i+1) ⟨by omega,((hbut.step f4.below).step b5).trans hbut6,by omega,_,hM6,fun x=> ?_⟩
  have hmk':=hmk x
  rw [List.mem_map] at hmk' ⊢
  rw [List.take_add_one,hs]
  constructor
  ·rintro ⟨p,hp,rfl⟩
   rcases mem_lput.1 hp with rfl|⟨h,_⟩
   ·exact ⟨s,by simp,rfl⟩
   ·obtain ⟨z,hz,e⟩:=hmk'.1 ⟨p,h,rfl⟩
    exact ⟨z,List.mem_append_left _ hz,e⟩
  ·rintro ⟨z,hz,e⟩
   by_cases hx:x=ownS N s
   ·exact ⟨_,mem_lput.2 (.inl rfl),hx.symm⟩
   ·rcases List.mem_append.1 hz with hz|hz
    ·obtain ⟨p,hp,e2⟩:=hmk'.2 ⟨z,hz,e⟩
     exact ⟨p,mem_lput.2 (.inr ⟨hp,by rw [e2]; exact hx⟩),e2⟩
    ·simp at hz
     subst hz
     exact absurd e.symm hx
 ·have hkeys: ∀x,x∈m.map (·.1)↔x∈holdS N d l ws t:=fun x=>by
   rw [hmk x,hold_mem,←hPe,List.take_of_length_le (by omega)]
  have hsub: ∀pre:List Int,pre.Nodup→(∀y∈pre,y∈m.map (·.1))→pre.length≤52:=fun pre hn hs=>by
   have h1:=nodup_len (l:=pre) (k:=P.map (ownS N)) hn fun x hx=>by
    obtain ⟨s,hs,e⟩:=(hmk x).1 (hs x hx)
    exact List.mem_map.2 ⟨s,List.mem_of_mem_take hs,e⟩
   rw [List.length_map,hPe] at h1
   have:=poss_len (N:=N) (d:=d) (l:=l) (ws:=ws) (t:=t)
   omega
  refine rnT ?_
  refine TW.rangeM intK rfl rfl Tryz.underlying93 rfl hm ?_
  rintro it w5 hit hw5 hb5 hwk
  refine rnT ?_
  have b05:=hbW0.step hb5
  refine CW.lp [34] (fun x:List Int×Value×Option (Int×Value)=> [(14,none,x.2.1)])
   (fun x W'=>WalkM intK W' it b m x.1 x.2.2∧OwnS W' 3 1 x.2.1 x.1.length (x.1.map (Value.int .i64))∧Below w.heap.size w W'∧w5.heap.size≤W'.heap.size∧(∀q,x.2.1.ownBlock=some q→w5.heap.size≤q)∧x.1.Nodup∧ ∀y∈x.1,y∈m.map (·.1))
   (fun x=>m.length-x.1.length) ([],.slice none 0 0,none) ⟨hwk,OwnS.nil _ _ _,b05,Nat.le_refl _,fun q hq=>by simp [Value.ownBlock] at hq,List.nodup_nil,fun y hy=>by cases hy⟩ ?_
  rintro ⟨pre,vf,lst⟩ W1 ⟨hwk1,hO,hbW1,hsz1,hfr,hnd,hsub1⟩
  dsimp only at hwk1 hO hbW1 hsz1 hfr hnd hsub1
  have hlen:=hsub pre hnd hsub1
  have hsw:=hbW0.size
  refine rnT ?_
  refine TW.nextM intK rfl rfl rfl hwk1 (fun hall=> ?_) (fun k v w2 hkv hkn' hs2 hbut2 hext2 hwk2=> ?_)
  ·skip
   refine rnT ?_
   refine CW.cond rfl (fun h1=> ?_) (fun h2=> ?_)
   ·exact absurd h1 (by simp)
   ·refine rnT ?_
    refine TW.cl rfl (sort_c hO (by omega)) ?_
    rintro y w8 ⟨hg8,hO8⟩
    refine rnT ?_
    refine rt1 rfl ⟨hbW1.grown hg8 hbW1.size (fun q hq=>by have:=hfr q hq; omega),?_⟩
    have e:(pre.mergeSort fun x y=>decide (x≤y))=holdS N d l ws t:=lt_ext (inc_sorted hnd) hold_lt fun x=>by
     rw [List.mem_mergeSort,←hkeys]
     refine ⟨fun h=>hsub1 x h,fun h=> ?_⟩
     obtain ⟨p,hp,rfl⟩:=List.mem_map.1 h
     exact hall p hp
    have hl8:(pre.mergeSort fun x y=>decide (x≤y)).length=pre.length:=List.length_mergeSort ..
    rw [←hl8] at hO8
    rw [←e]
    exact OwnS.toInts hO8 (fun x hx=>by
     have:=hold_rng ((hkeys x).1 (hsub1 x (List.mem_mergeSort.1 hx)))
     exact ⟨by omega,by omega⟩) (fun q hq=>hO8.lt hq) (by omega)
  ·skip
   refine rnT ?_
   refine CW.cond rfl (fun h1=> ?_) (fun h2=> ?_)
   ·refine rnT ?_
    refine TW.entryM intK rfl rfl rfl hwk2 ?_
    refine rnT ?_
    refine TW.buildSlice 3 _ rfl rfl rfl eo32 (Args.cons rfl ct Args.nil) rfl rfl rfl rfl rfl ?_
    rintro g6 w6 f6
    have hO2:OwnS w2 3 1 vf pre.length (pre.map (Value.int .i64)):=hO.kept fun q hq=>hbut2.block q (hO.lt hq) (fun e=>by have:=hfr q hq; cases e; omega)
    refine TW.append [.int .i64 k] rfl rfl go32 rfl (hO2.below f6.below) rfl rfl (fun j u hj=>⟨_,rfl,f6.blk.fld hj⟩) (fun u hu=>by simp at hu; subst hu; rfl) (by omega) (by omega) ?_
    rintro v7 w7 hO7 hg7 hn7
    refine rnT ?_
    have s6:=f6.below.size
    have s7:=hg7.size
    have hb2':Below w.heap.size w w2:=hbW1.grown hbut2 hbW1.size (fun q hq=>by cases hq; omega)
    have hitlt:it<W1.heap.size:=by omega
    have hblt:b<W1.heap.size:=by omega
    refine KW.rd (pre++ [k],v7,some (k,v)) ⟨hwk2.kept ?_ ?_,by simpa using hO7,(hb2'.step f6.below).grown hg7 (hb2'.step f6.below).size (fun q hq=>by have:=hfr q hq; omega),by omega,fun q hq=> ?_,?_,?_⟩ (hm:= ?_)
    ·rw [hg7.block it (by omega) (fun e=>by have:=hfr it e.symm; omega),f6.below.block it (by omega)]
    ·rw [hg7.block b (by omega) (fun e=>by have:=hfr b e.symm; omega),f6.below.block b (by omega)]
    ·rcases hn7 with h|h
     ·exact hfr q (by rw [←h]; exact hq)
     ·rw [h] at hq
      cases hq
      omega
    ·refine List.nodup_append.2 ⟨hnd,by simp,fun a ha c hc e=> ?_⟩
     rw [List.mem_singleton] at hc
     subst hc
     subst e
     exact hkn' ha
    ·intro y hy
     rcases List.mem_append.1 hy with h|h
     ·exact hsub1 y h
     ·rw [List.mem_singleton] at h
      subst h
      exact List.mem_map.2 ⟨_,hkv,rfl⟩
    ·have hle:=nodup_len (l:=pre++ [k]) (k:=m.map (·.1)) (List.nodup_append.2 ⟨hnd,by simp,fun a ha c hc e=>by
      rw [List.mem_singleton] at hc
      subst hc
      subst e
      exact hkn' ha⟩) (fun y hy=>by
      rcases List.mem_append.1 hy with h|h
      ·exact hsub1 y h
      ·rw [List.mem_singleton] at h
       subst h
       exact List.mem_map.2 ⟨_,hkv,rfl⟩)
     simp at hle ⊢
     omega
   ·exact absurd h2 (by simp)
theorem dec1_c {g1:Nat} {d:Dist} (h1:Blk w g1 30 [dv]) (h2:Blk w g2 31 [lv]) (h3:Blk w g3 30 [wv]) (h4:Blk w g4 37 (clV c)) (hd:SD w dv d) (hl:SE w lv l) (hS:SD w wv ws) (hne: ∀e∈l,e.needs.length≤1000000) (hI:Knd.OK (.at c.to c.acc c.due)) :
  Gives Tryz.prog 39 #[.pointer (some ⟨g1,0,none⟩),.pointer (some ⟨g2,0,none⟩),.pointer (some ⟨g3,0,none⟩),.pointer (some ⟨g4,0,none⟩)] w fun u w'=>Below w.heap.size w w'∧u= .bool (!reachS d l ws c.to c.acc c.due):=by
 refine gv (f:=39) ?_
 refine rnT ?_
 refine TW.ld rfl (h1.cell 0) ?_
 refine TW.ld rfl (h2.cell 0) ?_
 refine TW.ld rfl (h3.cell 0) ?_
 refine rnT ?_
 refine TW.ld rfl (h4.fld (j:=2) rfl) ?_
 refine rnT ?_
 refine TW.ld rfl (h4.fld (j:=4) rfl) ?_
 refine rnT ?_
 refine TW.ld rfl (h4.fld (j:=5) rfl) ?_
 refine TW.cl rfl (reach_c hd hl hS hne hI) ?_
 rintro y w1 ⟨b1,rfl⟩
 refine rnT ?_
 refine rt1 rfl ⟨b1,rfl⟩
theorem dec3_c (h2:Blk w g2 31 [lv]) (h3:Blk w g3 30 [wv]) (h4:Blk w g4 37 (clV c)) (hl:SE w lv l) (hS:SD w wv ws) (hsm:l.length≤1000000) (hne: ∀e∈l,e.needs.length≤1000000) :
  Gives Tryz.prog 41 #[.pointer (some ⟨g2,0,none⟩),.pointer (some ⟨g3,0,none⟩),.pointer (some ⟨g4,0,none⟩)] w fun u w'=>Below w.heap.size w w'∧u= .bool (seenS l ws c.to c.due):=by
 refine gv (f:=41) ?_
 refine rnT ?_
 refine TW.pk [0,1,2,3] rfl ?_
 refine TW.ld rfl (h2.cell 0) ?_
 refine TW.ld rfl (h3.cell 0) ?_
 refine rnT ?_
 refine TW.ld rfl (h4.fld (j:=2) rfl) ?_
 refine rnT ?_
 refine TW.ld rfl (h4.fld (j:=5) rfl) ?_
 refine TW.cl rfl (seen_c hl hS hsm hne) ?_
 rintro y w1 ⟨b1,rfl⟩
 refine rnT ?_
 refine rt1 rfl ⟨b1,rfl⟩
theorem dec4_c:Gives Tryz.prog 42 #[] w fun u w'=>Below w.heap.size w w'∧u= .agg #[.int .i64 2,.int .i64 (-1)]:=by
 refine gv (f:=42) ?_
 refine rnT ?_
 refine TW.alloc rfl rfl zc42 ?_
 rintro g0 w1 f1
 refine rnT ?_
 refine TW.pk [0] rfl ?_
 refine TW.build [0,1] _ [.int .i64 2,.int .i64 (-1)] rfl rfl rfl (Args.cons rfl ct (Args.cons rfl ct Args.nil)) (by kernel_rfl) ?_
 have ha:=f1.at_
 refine TW.storeBlkF rfl rfl rfl f1.blk sz42 rfl rfl rfl ?_
 rintro w2 hB2 hbut2 hsz2
 refine rnT ?_
 refine retCS Tryz.results42 Tryz.underlying42 (by exact sz42) rfl (hB2) (⟨f1.below.grown hbut2 f1.below.size (fun q hq=>by cases hq; omega),rfl⟩)
theorem dec2_c {g0 g1 g5 g6:Nat} {v:NV} {psv:Value} {d:Dist} {ps:List Pp} (h0:Blk w g0 29 v.cells) (h1:Blk w g1 30 [dv]) (h2:Blk w g2 31 [lv]) (h3:Blk w g3 30 [wv]) (h4:Blk w g4 37 (clV c)) (h5:Blk w g5 32 [kv]) (h6:Blk w g6 33 [psv])
 (ht:Tabs w) (hN:NetAt w v N) (hd:SD w dv d) (hl:SE w lv l) (hS:SD w wv ws) (hk:SL intT F w kv ks) (hps:SPp w psv ps) (hne: ∀e∈l,e.needs.length≤1000000) :
  Gives Tryz.prog 40 #[.pointer (some ⟨g0,0,none⟩),.pointer (some ⟨g1,0,none⟩),.pointer (some ⟨g2,0,none⟩),.pointer (some ⟨g3,0,none⟩),.pointer (some ⟨g4,0,none⟩),.pointer (some ⟨g5,0,none⟩),.pointer (some ⟨g6,0,none⟩)] w fun u w'=>Below w.heap.size w w'∧u= .agg #[.int .i64 1,.int .i64 (liabS (holdS N d l ws c.due) ks ps c.label c.due)]:=by
 refine gv (f:=40) ?_
 refine rnT ?_
 refine TW.alloc rfl rfl zc42 ?_
 rintro g7 w1 f1
 refine rnT ?_
 have b1:=f1.below
 refine TW.ldS rfl (fun _ _ hv=>(h0.next b1).fld hv) ?_
 refine TW.ld rfl ((h1.next b1).cell 0) ?_
 refine TW.ld rfl ((h2.next b1).cell 0) ?_
 refine TW.ld rfl ((h3.next b1).cell 0) ?_
 refine rnT ?_
 refine TW.ld rfl ((h4.next b1).fld (j:=5) rfl) ?_
 refine TW.cl rfl (holders_c (ht.below b1) (net_step hN b1) (sd_step hd b1) (se_step hl b1) (sd_step hS b1) hne) ?_
 rintro y w2 ⟨b2,hH⟩
 have b12:=b1.step b2
 obtain ⟨H,hHe⟩: ∃H,H=holdS N d l ws c.due:=⟨_,rfl⟩
 rw [←hHe] at hH ⊢
 obtain ⟨A,cap,rfl,_⟩:=hH.form
 have hmax:=hH.len.2.2
 have hg7:=f1.at_
 have hR2:=f1.blk.next b2
 refine rnT ?_
 refine CW.draw mixed (by kernel_rfl) ?_
 refine rnD ?_
 by_cases h1':H.length=1
 ·obtain ⟨o,hHo⟩: ∃o,H= [o]:=List.length_eq_one_iff.1 h1'
  have hx0:H[0]?=some o:=by rw [hHo]; rfl
  have hlb:liabS H ks ps c.label c.due=if dec (Exc ks ps c.label o c.due)=true then (-1:Int) else o:=by rw [hHo]; rfl
  rw [hlb]
  obtain ⟨ad,rfl⟩:=hH.addr (by omega)
  refine DW.ld rfl ((h5.next b12).cell 0) ?_
  refine DW.ld rfl ((h6.next b12).cell 0) ?_
  refine rnD ?_
  refine DW.ld rfl ((h4.next b12).fld (j:=0) rfl) ?_
  refine rnD ?_
  refine DW.ld rfl ((show w2.cell? (ad.add ((0:Int).toNat*1))=some (.int .i64 o) from hH.getI hx0)) ?_
  refine rnD ?_
  refine DW.ld rfl ((h4.next b12).fld (j:=5) rfl) ?_
  refine DW.call (.ex (.bool (dec (Exc ks ps c.label o c.due)))) trivial rfl rfl en18 rfl ct (DArgs.cons rfl id (DArgs.cons rfl id (DArgs.cons rfl id (DArgs.cons rfl id (DArgs.cons rfl id DArgs.nil))))) (fun _ w' hb'=>excused_c (hk.below (b12.step hb')) (spp_step hps (b12.step hb'))) ?_
  refine rnD ?_
  refine DW.fi [0,1,2,3,4,5,6,7,8,31] rfl fun w3 b3=> ?_
  refine KW.then_ ?_
  have hR3:=hR2.next b3
  have b13:=b12.step b3
  have s12:=b12.size
  have s1:=b1.size
  have s13:=b13.size
  refine CW.cond rfl (fun hyes=> ?_) (fun hnot=> ?_)
  ·have he:dec (Exc ks ps c.label o c.due)=true:=by
    have h: ¬((H.length:Int)=1)∨dec (Exc ks ps c.label o c.due)=true:=by simpa using hyes
    exact h.resolve_left (by omega)
   refine rnT ?_
   refine TW.build [0,1] _ [.int .i64 1,.int .i64 (-1)] rfl rfl rfl (Args.cons rfl ct (Args.cons rfl ct Args.nil)) (by kernel_rfl) ?_
   refine TW.storeBlkF rfl rfl rfl hR3 sz42 rfl rfl rfl ?_
   rintro w4 hB4 hbut4 hsz4
   refine rnT ?_
   refine retCS Tryz.results40 Tryz.underlying42 (by exact sz42) rfl (hB4) (⟨b13.grown hbut4 b13.size (fun q hq=>by cases hq; omega),by rw [if_pos he]⟩)
  ·have he:dec (Exc ks ps c.label o c.due)=false:=by
    have h:((H.length:Int)=1)∧dec (Exc ks ps c.label o c.due)=false:=by simpa using hnot
    exact h.2
   refine rnT ?_
   refine TW.ld rfl ((show w3.cell? (ad.add ((0:Int).toNat*1))=some (.int .i64 o) from (hH.below b3).getI hx0)) ?_
   refine TW.build [0,1] _ [.int .i64 1,.int .i64 o] rfl rfl rfl (Args.cons rfl ct (Args.cons rfl ct Args.nil)) (by kernel_rfl) ?_
   refine TW.storeBlkF rfl rfl rfl hR3 sz42 rfl rfl rfl ?_
   rintro w4 hB4 hbut4 hsz4
   refine rnT ?_
   refine retCS Tryz.results40 Tryz.underlying42 (by exact sz42) rfl (hB4) (⟨b13.grown hbut4 b13.size (fun q hq=>by cases hq; omega),by rw [if_neg (by rw [he]; simp)]⟩)
 ·have hne1:liabS H ks ps c.label c.due= -1:=by
   rcases liab_cases H ks ps c.label c.due with ⟨o,h,_⟩|⟨_,h⟩
   ·rw [h] at h1'
    exact absurd rfl h1'
   ·exact h
  rw [hne1]
  refine DW.dead (.bool false) rfl (by simp [Cnd]; omega) rfl rfl ?_
  refine DW.dead (.bool false) rfl (by simp [Cnd]; omega) rfl rfl ?_
  refine DW.dead (.bool false) rfl (by simp [Cnd]; omega) rfl rfl ?_
  refine DW.dead (.bool false) rfl (by simp [Cnd]; omega) rfl rfl ?_
  refine DW.dead (.bool false) rfl (by simp [Cnd]; omega) rfl rfl ?_
  refine DW.dead (.bool false) rfl (by simp [Cnd]; omega) rfl rfl ?_
  refine DW.dead (.bool false) rfl (by simp [Cnd]; omega) rfl rfl ?_
  refine DW.dead (.bool false) rfl (by simp [Cnd]; omega) rfl rfl ?_
  refine DW.dead (.bool false) rfl (by simp [Cnd]; omega) rfl rfl ?_
  refine DW.dead (.bool false) rfl (by simp [Cnd]; omega) rfl rfl ?_
  refine DW.dead (.bool false) rfl (by simp [Cnd]; omega) rfl rfl ?_
  refine rnD ?_
  refine DW.fi [0,1,2,3,4,5,6,7,8,31] rfl fun w3 b3=> ?_
  refine KW.then_ ?_
  have hR3:=hR2.next b3
  have b13:=b12.step b3
  have s12:=b12.size
  have s1:=b1.size
  have s13:=b13.size
  refine CW.cond rfl (fun hyes=> ?_) (fun hnot=> ?_)
  ·refine rnT ?_
   refine TW.build [0,1] _ [.int .i64 1,.int .i64 (-1)] rfl rfl rfl (Args.cons rfl ct (Args.cons rfl ct Args.nil)) (by kernel_rfl) ?_
   refine TW.storeBlkF rfl rfl rfl hR3 sz42 rfl rfl rfl ?_
   rintro w4 hB4 hbut4 hsz4
   refine rnT ?_
   refine retCS Tryz.results40 Tryz.underlying42 (by exact sz42) rfl (hB4) (⟨b13.grown hbut4 b13.size (fun q hq=>by cases hq; omega),rfl⟩)
  ·exfalso
   simp at hnot
   omega
end Go.Proofs.YtobaafdejnimkaaGreatDoor
