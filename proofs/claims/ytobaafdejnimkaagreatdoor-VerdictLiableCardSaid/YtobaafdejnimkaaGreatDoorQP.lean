/- Texts of this claim,joined. -/
import Derived.Test.YtobaafdejnimkaaGreatDoorQO
import Derived.KernelRfl
import Derived.Shelf.Strings.FuncGrows
set_option linter.unusedSimpArgs false
set_option linter.unusedVariables false
set_option maxRecDepth 100000
set_option maxHeartbeats 4000000
namespace Go.Proofs.YtobaafdejnimkaaGreatDoor
open Go.PF Go.RowKit Go.Ord
attribute [local irreducible] TW CW KW DW
structure LightP (N:Net) (d:Dist) (l:List Ev) (ws:List (List Int)):Prop where
 net:FewR N
 offs:N.offs.length≤5
 lines:N.lines.length≤10
 few:FewP d l
 ws12:ws.length≤12
 each: ∀S∈ws,S.length≤6
theorem rlight_c {w:World} {v:NV} {N:Net} {dv lv wv:Value} {d:Dist} {l:List Ev} {ws:List (List Int)} (hN:NetAt w v N) (hd:SD w dv d) (hl:SE w lv l) (hS:SD w wv ws) :
  Gives Tryz.prog 11 #[.agg v.cells.toArray,dv,lv,wv] w fun x w'=>Below w.heap.size w w'∧x= .bool (dec (LightP N d l ws)):=by
 have hform:=NetIn.form hN
 obtain ⟨X,xcap,rfl,_⟩:=hS.form
 have hmax:=hS.len.2.2
 have hv: ∃A4 c4,v.f= .slice A4 N.offs.length c4:=hform.f
 have hv5: ∃A5 c5,v.l= .slice A5 N.lines.length c5:=hform.l
 obtain ⟨vc,vn,vo,vf,vl,vk⟩:=v
 obtain ⟨A4,c4,e4⟩:=hv
 obtain ⟨A5,c5,e5⟩:=hv5
 dsimp only at e4 e5
 subst e4 e5
 refine gv (f:=11) ?_
 refine rnT ?_
 refine TW.box rfl rfl rfl rfl ?_
 rintro g4 w1 f1
 refine rnT ?_
 have hB1:=f1.blk
 refine CW.lp [1,2,3,4] (fun i:Nat=> [(9,none,.int .i64 (i:Int))])
  (fun i W=>i≤ws.length∧W=w1∧ ∀S∈ws.take i,S.length≤6) (fun i=>ws.length-i) 0 ⟨Nat.zero_le _,rfl,fun S hS=>by simp at hS⟩ ?_
 rintro i W ⟨hi,rfl,hall⟩
 refine rnT ?_
 refine CW.condP rfl (fun hlt=> ?_) (fun hge=> ?_)
 ·have hSW:=hS.below f1.below
  obtain ⟨S,hS1,hSm⟩:=getx (l:=ws) (k:=i) (by omega)
  obtain ⟨ad,rfl⟩:=hSW.addr (by omega)
  obtain ⟨sv,hcell,hrow⟩:=hSW.row hS1
  obtain ⟨C,scap,rfl,_⟩:=hrow.form
  refine rnT ?_
  refine TW.ld rfl hcell ?_
  refine rnT ?_
  refine CW.pk [1,2,3,4,9,21] rfl ?_
  refine CW.condP rfl (fun hbig=> ?_) (fun hsmall=> ?_)
  ·refine rnT ?_
   refine rt1 rfl ⟨f1.below,?_⟩
   rw [dec_neg fun h=>by have:=h.each S hSm; omega]
  ·refine rnT ?_
   refine KW.rd (i+1) ⟨by omega,rfl,fun T hT=> ?_⟩
   rw [List.take_add_one,hS1] at hT
   rcases List.mem_append.1 hT with hT|hT
   ·exact hall T hT
   ·simp at hT
    subst hT
    omega
 ·rw [List.take_of_length_le (by omega)] at hall
  refine rnT ?_
  refine TW.ldS rfl (fun _ _ hv=>hB1.fld hv) ?_
  refine TW.cl rfl (rfew_c (net_step hN f1.below)) ?_
  rintro y w2 ⟨b2,rfl⟩
  have hB2:=hB1.next b2
  have b02:=f1.below.step b2
  refine rnT ?_
  refine TW.ld rfl (hB2.fld rfl) ?_
  refine rnT ?_
  refine TW.ld rfl (hB2.fld rfl) ?_
  refine rnT ?_
  refine TW.callF (cap:= []) rfl rfl en35 rfl ct (Args.cons rfl id (Args.cons rfl id Args.nil)) (fun _=>rfew28_c (sd_step hd b02) (se_step hl b02)) ?_
  rintro w3 b3
  refine rnT ?_
  refine rt1 rfl ⟨b02.step b3,?_⟩
  congr 1
  by_cases hL:LightP N d l ws
  ·rw [dec_pos hL,dec_pos hL.net,dec_pos hL.few]
   have h1:=hL.offs
   have h2:=hL.lines
   have h3:=hL.ws12
   simp
   omega
  ·rw [dec_neg hL]
   by_cases hn:FewR N
   ·by_cases hf:FewP d l
    ·rw [dec_pos hn,dec_pos hf]
     have: ¬(N.offs.length≤5∧N.lines.length≤10∧ws.length≤12):=fun h=>hL ⟨hn,h.1,h.2.1,hf,h.2.2,hall⟩
     simp
     omega
    ·rw [dec_neg hf]
     simp
   ·rw [dec_neg hn]
    simp
end Go.Proofs.YtobaafdejnimkaaGreatDoor
namespace Go.Proofs.YtobaafdejnimkaaGreatDoor
open Go.PF Go.RowKit Go.Ord
variable {t o τ:Int}
def bya (n:UInt8):ByteArray:=⟨#[n]⟩
def ofA:Of:=⟨bya 97,0,0,8,2,10,[]⟩
def ofB:Of:=⟨bya 98,1,0,8,2,10,[]⟩
def liX:Li:=⟨bya 120,0,1,0,60,1⟩
def liY:Li:=⟨bya 121,1,0,0,60,1⟩
def N0:Net:=⟨[⟨0,[true,true,true,true,true,false,false],[]⟩],[bya 99],[bya 112,bya 113],[ofA,ofB],[liX,liY],[]⟩
def d0:Dist:= [[0,60],[60,0]]
def e0:Ev:=⟨0,100,100,[0]⟩
def e1:Ev:=⟨1,150,160,[1]⟩
def ev1:List Ev:= [e0]
def ev2:List Ev:= [e1,e0]
theorem wfd0:WfD d0:=by
 have two: ∀i,i<List.length d0→i=0∨i=1:=fun i hi=>by simp [d0] at hi; omega
 refine ⟨by decide,fun i r hr=> ?_,by decide,fun i j hi hj=> ?_,fun i k j hi hk hj=> ?_⟩
 rotate_left
 ·rcases two i hi with rfl|rfl<;>rcases two j hj with rfl|rfl<;>decide
 ·rcases two i hi with rfl|rfl<;>rcases two j hj with rfl|rfl<;>rcases two k hk with rfl|rfl<;>decide
 match i,hr with
 | 0,hr=>cases hr; rfl
 | 1,hr=>cases hr; rfl
 | i+2,hr=>simp [d0] at hr
theorem keys_big: ∀k∈keys11,2≤k.size:=by
 intro k hk
 have h:(keys11.all fun k=>decide (2≤k.size))=true:=by kernel_rfl
 exact of_decide_eq_true (List.all_eq_true.1 h k hk)
theorem name1 {n:UInt8} (h1:97≤n.toNat) (h2:n.toNat≤122):NameOK keys11 (bya n):=by
 have hsz:(bya n).size=1:=rfl
 have h0:byteA (bya n) 0=n.toNat:=rfl
 refine ⟨by rw [hsz]; omega,by rw [hsz]; omega,by rw [h0]; exact ⟨h1,h2⟩,fun i hi=> ?_,fun hk=> ?_⟩
 ·rw [hsz] at hi
  have:i=0:=by omega
  subst this
  rw [h0]
  exact .inl ⟨h1,h2⟩
 ·have:=keys_big _ hk
  rw [hsz] at this
  omega
theorem bya_ne {a b:UInt8} (h:a≠b):bya a≠bya b:=fun e=>h (by have:=congrArg (fun x:ByteArray=>x.data.getD 0 0) e; exact this)
theorem off0_ok {o:Of} (h:(o.op=0∨o.op=1)∧o.cal=0∧o.pock=8∧o.pass=2∧o.mins=10∧o.codes= []):OfOK N0 o:=by
 obtain ⟨h1,h2,h3,h4,h5,h6⟩:=h
 have n1:N0.ops.length=2:=rfl
 have n2:N0.cals.length=1:=rfl
 exact ⟨by omega,by omega,by omega,by omega,by rw [h6]; simp,(fun c hc=>by rw [h6] at hc; cases hc),by omega,by omega,by omega,by omega,by omega,by omega⟩
theorem sound0:SoundOK keys11 N0:=by
 refine ⟨⟨rfl,⟨by decide,fun s hs=> ?_,by simp [N0],fun c hc=> ?_⟩,⟨by decide,fun s hs=> ?_,?_,fun _ _=>trivial⟩,⟨by decide,fun s hs=> ?_,?_,fun o ho=> ?_⟩,⟨by decide,fun s hs=> ?_,?_,fun l hl=> ?_⟩,⟨by decide,(fun s hs=>by cases hs),List.nodup_nil,(fun x hx=>by cases hx)⟩⟩,fun a b ha hb=> ?_⟩
 ·rw [List.mem_singleton.1 hs]; exact name1 (by decide) (by decide)
 ·rw [List.mem_singleton.1 hc]
  exact ⟨by decide,by decide,rfl,by decide,fun i x y hx=>by simp at hx⟩
 ·have hs:s∈ [bya 112,bya 113]:=hs
  simp only [List.mem_cons,List.not_mem_nil,or_false] at hs
  rcases hs with rfl|rfl<;>exact name1 (by decide) (by decide)
 ·show [bya 112,bya 113].Nodup
  simp only [List.nodup_cons,List.mem_singleton,List.not_mem_nil,not_false_eq_true,List.nodup_nil,and_true]
  exact bya_ne (by decide)
 ·have hs:s∈ [bya 97,bya 98]:=hs
  simp only [List.mem_cons,List.not_mem_nil,or_false] at hs
  rcases hs with rfl|rfl<;>exact name1 (by decide) (by decide)
 ·show [bya 97,bya 98].Nodup
  simp only [List.nodup_cons,List.mem_singleton,List.not_mem_nil,not_false_eq_true,List.nodup_nil,and_true]
  exact bya_ne (by decide)
 ·have ho:o∈ [ofA,ofB]:=ho
  simp only [List.mem_cons,List.not_mem_nil,or_false] at ho
  rcases ho with rfl|rfl<;>exact off0_ok ⟨by decide,rfl,rfl,rfl,rfl,rfl⟩
 ·have hs:s∈ [bya 120,bya 121]:=hs
  simp only [List.mem_cons,List.not_mem_nil,or_false] at hs
  rcases hs with rfl|rfl<;>exact name1 (by decide) (by decide)
 ·show [bya 120,bya 121].Nodup
  simp only [List.nodup_cons,List.mem_singleton,List.not_mem_nil,not_false_eq_true,List.nodup_nil,and_true]
  exact bya_ne (by decide)
 ·have hl:l∈ [liX,liY]:=hl
  simp only [List.mem_cons,List.not_mem_nil,or_false] at hl
  rcases hl with rfl|rfl<;>exact ⟨by decide,by decide,by decide,by decide,by decide,by decide,by decide,by decide,by decide,by decide,by decide⟩
 ·have two: ∀i,i<N0.offs.length→i=0∨i=1:=fun i hi=>by have:N0.offs.length=2:=rfl; omega
  have hx:(0,1,60)∈lnOf N0:=by show (0,1,60)∈ [(0,1,(60:Int)),(1,0,60)]; simp
  have hy:(1,0,60)∈lnOf N0:=by show (1,0,60)∈ [(0,1,(60:Int)),(1,0,60)]; simp
  rcases two a ha with rfl|rfl<;>rcases two b hb with rfl|rfl
  ·exact .refl _
  ·exact ReachL.one hx
  ·exact ReachL.one hy
  ·exact .refl _
theorem fold_fix {α β:Type} {f:α→β→α} {x:α}: ∀ {l:List β},(∀y∈l,f x y=x)→l.foldl f x=x
 | [],_=>rfl
 | y::l,h=>by rw [List.foldl_cons,h y (by simp)]; exact fold_fix fun z hz=>h z (by simp [hz])
def M1:Tab12:=(init12.set 1 60).set 12 60
theorem lines0:lines12 init12 [(0,1,60),(1,0,60)]=M1:=by
 have h1:relax12 init12 0 1 60=init12.set 1 60:=by
  unfold relax12
  rw [if_pos (.inl (by decide))]
 have h2:relax12 (init12.set 1 60) 1 0 60=M1:=by
  unfold relax12
  rw [if_pos (.inl (by decide))]
  rfl
 show relax12 (relax12 init12 0 1 60) 1 0 60=M1
 rw [h1,h2]
theorem fix_check:((List.range 12).all fun o=>(List.range 12).all fun a=>(List.range 12).all fun b=> !(decide (g12 M1 a o≠ -1)&&decide (g12 M1 o b≠ -1))|| !(decide (g12 M1 a b= -1)||decide (g12 M1 a o+g12 M1 o b<g12 M1 a b)))=true:=by decide +kernel
theorem via_fix {o a b:Nat} (ho:o<12) (ha:a<12) (hb:b<12):via12 o a M1 b=M1:=by
 have h:=List.all_eq_true.1 (List.all_eq_true.1 (List.all_eq_true.1 fix_check o (List.mem_range.2 ho)) a (List.mem_range.2 ha)) b (List.mem_range.2 hb)
 unfold via12
 split
 ·rename_i hc
  unfold relax12
  rw [if_neg]
  intro hn
  rw [decide_eq_true hc.1,decide_eq_true hc.2] at h
  simp at h
  rcases hn with hn|hn
  ·exact h.1 hn
  ·omega
 ·rfl
theorem all_fix:all12 M1 12=M1:=by
 unfold all12
 refine fold_fix fun o ho=> ?_
 unfold rnd12
 refine fold_fix fun a ha=> ?_
 unfold row12
 exact fold_fix fun b hb=>via_fix (List.mem_range.1 ho) (List.mem_range.1 ha) (List.mem_range.1 hb)
theorem dist00:distG (relaxed12 [(0,1,60),(1,0,60)]) 2= [[0,60],[60,0]]:=by
 unfold relaxed12
 rw [lines0,all_fix]
 decide +kernel
theorem dist0:distG (relaxed12 (lnOf N0)) 2=d0:=dist00
theorem eok0 {e:Ev} (h:e.office=0∨e.office=1):EOK d0 e:=by
 have:List.length d0=2:=rfl
 rcases h with h|h<;>exact ⟨by omega,by omega⟩
theorem wfe0 {r:List Ev} (hr: ∀e∈r,e.office=0∨e.office=1) (hl:r.length≤8):WfE d0 r:=⟨wfd0,by omega,fun e he=>eok0 (hr e he)⟩
theorem off1: ∀e∈ev1,e.office=0∨e.office=1:=by decide
theorem off2: ∀e∈ev2,e.office=0∨e.office=1:=by decide
theorem only1 {l:List ET} (hl:l.map (·.1)=ev1) (h:HoldsN d0 l):l= [(e0,100)]:=by
 obtain ⟨a,rfl⟩: ∃a,l= [a]:=by
  have hn:=congrArg List.length hl
  simp [ev1] at hn
  exact List.length_eq_one_iff.1 hn
 simp [ev1] at hl
 have q1:=h.each a (by simp)
 obtain ⟨a1,a2⟩:=a
 dsimp only at hl
 subst hl
 simp [e0] at q1
 have h1:a2=100:=by omega
 rw [h1]
theorem holds1:HoldsN d0 [(e0,100)]:=⟨fun x hx=>by rw [List.mem_singleton.1 hx]; simp [e0],List.pairwise_singleton _ _⟩
theorem holds2:HoldsN d0 [(e1,160),(e0,100)]:=⟨fun x hx=>by
 simp only [List.mem_cons,List.not_mem_nil,or_false] at hx
 rcases hx with rfl|rfl<;>simp [e0,e1],by
 simp [Aft,at2,d0,e0,e1]⟩
theorem poss1:Poss d0 ev1:=⟨[(e0,100)],rfl,holds1⟩
theorem pv1:PV d0 ev1 o τ↔0≤τ∧τ≤1000000∧(ToO d0 (e0,100) o τ∨FrO d0 o τ (e0,100)):=by
 unfold PV
 refine and_congr_right fun _=>and_congr_right fun _=> ?_
 constructor
 ·rintro ⟨l,hl,h,hx⟩
  rw [only1 hl h] at hx
  exact hx _ (by simp)
 ·intro h1
  exact ⟨[(e0,100)],rfl,holds1,fun x hx=>by rw [List.mem_singleton.1 hx]; exact h1⟩
theorem pj1 {a b:Ev} {g:Int}:PossJ d0 ev1 a b g↔LegOK d0 a b g∧ ∃t,OKt a t∧OKt b (t+g)∧(Aft d0 (e0,100) (a,t)∨Aft d0 (b,t+g) (e0,100)):=by
 unfold PossJ
 refine and_congr_right fun _=> ?_
 constructor
 ·rintro ⟨l,t,hl,h,h2,h3,h4⟩
  rw [only1 hl h] at h4
  exact ⟨t,h2,h3,h4 _ (by simp)⟩
 ·rintro ⟨t,h2,h3,h4⟩
  exact ⟨[(e0,100)],t,rfl,holds1,h2,h3,fun x hx=>by rw [List.mem_singleton.1 hx]; exact h4⟩
theorem pos_at {f:Int} (ho:o=0∨o=1) (h: ∃τ,f≤τ∧τ≤t∧PV d0 ev1 o τ):(Knd.at o f t).b d0 ev1=true:=at_iff.2 ⟨wfe0 (fun e he=>by
 rcases List.mem_append.1 he with he|he
 ·exact off1 e he
 ·rw [List.mem_singleton.1 he]; exact ho) (by simp [ev1]),h⟩
theorem neg_at {f:Int} (h: ¬ ∃τ,f≤τ∧τ≤t∧PV d0 ev1 o τ):(Knd.at o f t).b d0 ev1=false:=by
 cases hq:(Knd.at o f t).b d0 ev1 with
 | false=>rfl
 | true=>exact absurd (at_iff.1 hq).2 h
theorem at0_iff:PV d0 ev1 0 τ↔0≤τ∧τ≤1000000:=by
 rw [pv1]
 simp [ToO,FrO,at2,d0,e0]
 omega
theorem at1_iff:PV d0 ev1 1 τ↔0≤τ∧τ≤1000000∧(τ≤40∨160≤τ):=by
 rw [pv1]
 simp [ToO,FrO,at2,d0,e0]
 omega
theorem onx_iff:PossJ d0 ev1 (lvE liX t) (arE liX t) liX.trav↔ ∃τ,0≤τ∧τ+60≤1000000∧t-59≤τ∧τ≤t-1∧(100≤τ∨τ≤ -20):=by
 rw [pj1]
 simp [LegOK,OKt,Aft,at2,d0,e0,lvE,arE,liX]
 refine exists_congr fun τ=> ?_
 omega
theorem ony_iff:PossJ d0 ev1 (lvE liY t) (arE liY t) liY.trav↔ ∃τ,0≤τ∧τ+60≤1000000∧t-59≤τ∧τ≤t-1∧(τ≤40∨160≤τ):=by
 rw [pj1]
 simp [LegOK,OKt,Aft,at2,d0,e0,lvE,arE,liY]
 refine exists_congr fun τ=> ?_
 omega
theorem pos_on {l:Li} (hl:l=liX∨l=liY) (h:PossJ d0 ev1 (lvE l t) (arE l t) l.trav):(Knd.on l t).b d0 ev1=true:=on_iff.2 ⟨wfe0 (fun e he=>by
 simp only [ev1,List.cons_append,List.nil_append,List.mem_cons,List.not_mem_nil,or_false] at he
 rcases he with rfl|rfl|rfl<;>rcases hl with rfl|rfl<;>simp [lvE,arE,liX,liY,e0]) (by simp [ev1]),h⟩
theorem neg_on {l:Li} (h: ¬PossJ d0 ev1 (lvE l t) (arE l t) l.trav):(Knd.on l t).b d0 ev1=false:=by
 cases hq:(Knd.on l t).b d0 ev1 with
 | false=>rfl
 | true=>exact absurd (on_iff.1 hq).2 h
theorem fit1:FitW d0 ev1 1:=⟨by decide,by decide,wfd0,fun e he=>eok0 (off1 e he)⟩
theorem fit2:FitW d0 ev2 1:=⟨by decide,by decide,wfd0,fun e he=>eok0 (off2 e he)⟩
theorem pok1 (h0:0≤t) (h1:t≤1000000):PossOK N0 d0 ev1 1 t:=⟨sound0,fit1,rfl,h0,h1⟩
theorem can1 {k:Knd}:canB d0 (restsS ev1 [[]]) k=k.b d0 ev1:=by
 show ([restS ev1 []].any (k.b d0))=_
 rw [show restS ev1 []=ev1 from rfl]
 simp
theorem poss0 (h0:0≤t) (h1:t≤1000000):possS N0 d0 ev1 [[]] t=(if (Knd.at 0 t t).b d0 ev1 then [(0,-1)] else [])++((if (Knd.at 1 t t).b d0 ev1 then [(1,-1)] else [])++((if (Knd.on liX t).b d0 ev1 then [(-1,0)] else [])++(if (Knd.on liY t).b d0 ev1 then [(-1,1)] else []))):=by
 rw [poss_eq (pok1 h0 h1)]
 unfold spotsS
 simp only [can1]
 show (List.filter (fun p:Spt×Knd=>p.2.b d0 ev1) [((0,-1),.at 0 t t),((1,-1),.at 1 t t),((-1,0),.on liX t),((-1,1),.on liY t)]).map (·.1)=_
 simp only [List.filter]
 cases (Knd.at 0 t t).b d0 ev1<;>cases (Knd.at 1 t t).b d0 ev1<;>cases (Knd.on liX t).b d0 ev1<;>cases (Knd.on liY t).b d0 ev1<;>rfl
theorem p150:possS N0 d0 ev1 [[]] 150= [(0,-1),(-1,0)]:=by
 rw [poss0 (by decide) (by decide),pos_at (.inl rfl) ⟨150,by decide,by decide,at0_iff.2 ⟨by decide,by decide⟩⟩,neg_at (fun ⟨τ,h1,h2,h3⟩=>by have:=at1_iff.1 h3; omega),pos_on (.inl rfl) (onx_iff.2 ⟨100,by decide⟩),neg_on (fun h=>by obtain ⟨τ,h⟩:=ony_iff.1 h; omega)]
 rfl
theorem p160:possS N0 d0 ev1 [[]] 160= [(0,-1),(1,-1),(-1,0)]:=by
 rw [poss0 (by decide) (by decide),pos_at (.inl rfl) ⟨160,by decide,by decide,at0_iff.2 ⟨by decide,by decide⟩⟩,pos_at (.inr rfl) ⟨160,by decide,by decide,at1_iff.2 ⟨by decide,by decide,by decide⟩⟩,pos_on (.inl rfl) (onx_iff.2 ⟨110,by decide⟩),neg_on (fun h=>by obtain ⟨τ,h⟩:=ony_iff.1 h; omega)]
 rfl
theorem own0:ownS N0 (0,-1)=0∧ownS N0 (1,-1)=1∧ownS N0 (-1,0)=0:=by
 unfold ownS
 rw [dec_pos sound0.cons]
 exact ⟨rfl,rfl,rfl⟩
theorem h150:holdS N0 d0 ev1 [[]] 150= [0]:=by
 refine lt_ext hold_lt (List.pairwise_singleton _ _) fun o=> ?_
 rw [hold_mem,p150]
 simp [own0.1,own0.2.2]
 omega
theorem h160:holdS N0 d0 ev1 [[]] 160= [0,1]:=by
 refine lt_ext hold_lt (by simp) fun o=> ?_
 rw [hold_mem,p160]
 simp [own0.1,own0.2.1,own0.2.2]
 omega
theorem r150:reachS d0 ev1 [[]] 1 100 150=false:=by
 unfold reachS
 rw [can1,neg_at (fun ⟨τ,h1,h2,h3⟩=>by have:=at1_iff.1 h3; omega),Bool.and_false]
theorem r160:reachS d0 ev1 [[]] 1 100 160=true:=by
 unfold reachS
 rw [can1,show ([[]]:List (List Int)).length=1 from rfl,dec_pos fit1,pos_at (.inr rfl) ⟨160,by decide,by decide,at1_iff.2 ⟨by decide,by decide,by decide⟩⟩]
 rfl
theorem q160:reachS d0 ev2 [[]] 1 100 160=true:=by
 unfold reachS
 rw [show ([[]]:List (List Int)).length=1 from rfl,dec_pos fit2]
 refine Bool.and_eq_true_iff.2 ⟨rfl,can_iff.2 ⟨ev2,by simp [restsS]; rfl,at_iff.2 ⟨wfe0 (by decide) (by decide),160,by decide,by decide,by decide,by decide,[(e1,160),(e0,100)],rfl,holds2,fun x hx=> ?_⟩⟩⟩
 simp only [List.mem_cons,List.not_mem_nil,or_false] at hx
 rcases hx with rfl|rfl<;>simp [ToO,FrO,at2,d0,e0,e1]
theorem se1:seenS ev1 [[]] 1 160=false:=by decide
theorem se2:seenS ev2 [[]] 1 160=true:=by decide
theorem wfp1:WfP d0 ev1:=⟨wfd0,by decide,fun e he=>eok0 (off1 e he),by decide⟩
theorem worlds1:worldsS d0 ev1 0= [[]]:=by
 unfold worldsS
 rw [if_pos ⟨dec_pos wfp1,by decide,by decide,by decide⟩]
 show ([[]]:List (List Int)).filter _=_
 rw [List.filter_cons_of_pos]
 ·rfl
 ·exact dec_pos (p:=Poss d0 (restS ev1 [])) poss1
theorem werr1:worldsE d0 ev1 0=0:=by
 unfold worldsE
 rw [if_pos ⟨dec_pos wfp1,by decide,by decide⟩,if_pos (by decide),if_neg (by rw [worlds1]; simp)]
theorem fitted1:Fitted d0 ev1:=⟨⟨wfd0,by decide,fun e he=>eok0 (off1 e he)⟩,poss1⟩
end Go.Proofs.YtobaafdejnimkaaGreatDoor
namespace Go.Proofs.YtobaafdejnimkaaGreatDoor
open Go.PF Go.RowKit Go.Ord
attribute [local irreducible] TW CW KW DW
variable {w:World} {d:Dist} {n:Nat}
theorem vwithin_c {x a b:Int}:Gives Tryz.prog 94 #[.int .i64 x,.int .i64 a,.int .i64 b] w fun u w'=>w'=w∧u= .bool (decide (a≤x∧x≤b)):=by
 refine gv (f:=94) ?_
 refine rnT ?_
 refine rt1 rfl ⟨rfl,by simp⟩
theorem shortest_c {v:Value} (hd:SD w v d) (hrows: ∀(i:Nat) (r:List Int),d[i]?=some r→RowOK d i r):Gives Tryz.prog 162 #[v] w fun u w'=>Below w.heap.size w w'∧u= .bool (dec (∀a b c,a<d.length→b<d.length→c<d.length→Tri d a b c)):=by
 obtain ⟨A,cap,rfl,hcap⟩:=hd.form
 have hmax:d.length≤9223372036854775807:=hd.len.2.2
 have hall: ∀i,i<d.length→ ∃r,d[i]?=some r∧r.length=d.length:=fun i hi=>⟨d[i],List.getElem?_eq_getElem hi,(hrows i _ (List.getElem?_eq_getElem hi)).len⟩
 refine gv (f:=162) ?_
 refine rnT ?_
 refine CW.lp [0,7] (fun i:Nat=> [(8,none,.int .i64 (i:Int))])
  (fun i W'=>i≤d.length∧Below w.heap.size w W'∧ ∀a b c,a<i→b<d.length→c<d.length→Tri d a b c) (fun i=>d.length-i) 0 ⟨by omega,Below.refl _ _,fun a b c ha=>by omega⟩ ?_
 rintro i W' ⟨hi,hB1,htri⟩
 refine rnT ?_
 refine CW.condP rfl (fun hlt1=> ?_) (fun hge1=> ?_)
 ·have hil:i<d.length:=by omega
  obtain ⟨ad,rfl⟩:=hd.addr (by omega)
  refine rnT ?_
  refine CW.pk [0,3,7,8,12,13] rfl ?_
  refine CW.lp [0,3,7,8,12] (fun k:Nat=> [(13,none,.int .i64 (k:Int))])
   (fun k W2=>k≤d.length∧Below w.heap.size w W2∧ ∀b c,b<k→c<d.length→Tri d i b c) (fun k=>d.length-k) 0 ⟨by omega,hB1,fun b c hb=>by omega⟩ ?_
  rintro k W2 ⟨hk2,hB2,htri2⟩
  refine rnT ?_
  refine CW.condP rfl (fun hlt2=> ?_) (fun hge2=> ?_)
  ·have hkl:k<d.length:=by omega
   refine rnT ?_
   refine CW.lp [0,3,4,7,8,12,13,17] (fun j:Nat=> [(18,none,.int .i64 (j:Int))])
    (fun j W3=>j≤d.length∧Below w.heap.size w W3∧ ∀c,c<j→Tri d i k c) (fun j=>d.length-j) 0 ⟨by omega,hB2,fun c hc=>by omega⟩ ?_
   rintro j W3 ⟨hj3,hB3,htri3⟩
   refine rnT ?_
   refine CW.condP rfl (fun hlt3=> ?_) (fun hge3=> ?_)
   ·have hjl:j<d.length:=by omega
    have hdW:=sd_step hd hB3
    obtain ⟨r,hr,hrl⟩:=hall i hil
    obtain ⟨rv,hcell,hrow⟩:=hdW.row hr
    obtain ⟨B,rcap,rfl,_⟩:=hrow.form
    obtain ⟨bd,rfl⟩:=hrow.addr (by omega)
    obtain ⟨x,hx⟩: ∃x,r[k]?=some x:=⟨r[k]'(by omega),List.getElem?_eq_getElem (by omega)⟩
    have hxa:=at2_eq hr hx
    obtain ⟨r2,hr2,hr2l⟩:=hall k hkl
    obtain ⟨rv2,hcell2,hrow2⟩:=hdW.row hr2
    obtain ⟨B2,rcap2,rfl,_⟩:=hrow2.form
    obtain ⟨bd2,rfl⟩:=hrow2.addr (by omega)
    have hxr:=(hrows i r hr).rng k x hx
    obtain ⟨y,hy⟩: ∃y,r2[j]?=some y:=⟨r2[j]'(by omega),List.getElem?_eq_getElem (by omega)⟩
    obtain ⟨z,hz⟩: ∃z,r[j]?=some z:=⟨r[j]'(by omega),List.getElem?_eq_getElem (by omega)⟩
    have hya:=at2_eq hr2 hy
    have hza:=at2_eq hr hz
    have hyr:=(hrows k r2 hr2).rng j y hy
    have hzr:=(hrows i r hr).rng j z hz
    refine rnT ?_
    refine TW.ld rfl hcell ?_
    refine rnT ?_
    refine TW.ld rfl (hrow.getI hx) ?_
    refine rnT ?_
    refine TW.ld rfl hcell2 ?_
    refine rnT ?_
    refine TW.ld rfl (hrow2.getI hy) ?_
    refine rnT ?_
    refine CW.pk [0,3,4,5,7,8,12,13,17,18,38] rfl ?_
    refine CW.cond rfl (fun hskip=> ?_) (fun hgo=> ?_)
    ·refine rnT ?_
     refine KW.rd (j+1) ⟨by omega,hB3,fun c hc=> ?_⟩
     rcases Nat.lt_or_ge c j with h|h
     ·exact htri3 c h
     ·obtain rfl:c=j:=by omega
      intro q1 q2
      rw [hxa] at q1
      rw [hya] at q2
      simp at hskip
      omega
    have hgo':0≤x∧0≤y:=by simp at hgo; omega
    refine rnT ?_
    refine CW.draw mixed (by kernel_rfl) ?_
    refine rnD ?_
    refine DW.ld rfl hcell ?_
    refine rnD ?_
    refine DW.ld rfl (hrow.getI hz) ?_
    refine rnD ?_
    refine DW.ld rfl hcell ?_
    refine rnD ?_
    refine DW.ld rfl (hrow.getI hz) ?_
    refine rnD ?_
    refine DW.ld rfl hcell ?_
    refine rnD ?_
    refine DW.ld rfl (hrow.getI hx) ?_
    refine rnD ?_
    refine DW.ld rfl hcell2 ?_
    refine rnD ?_
    refine DW.ld rfl (hrow2.getI hy) ?_
    refine rnD ?_
    refine DW.fi [0,3,4,5,7,8,12,13,17,18,71] rfl fun w9 b9=> ?_
    refine KW.then_ ?_
    refine CW.cond rfl (fun hbad=> ?_) (fun hgood=> ?_)
    ·refine rnT ?_
     refine rt1 rfl ⟨hB3.step b9,?_⟩
     rw [dec_neg]
     intro h
     have ht:=h i k j hil hkl hjl (by rw [hxa]; omega) (by rw [hya]; omega)
     rw [hxa,hya,hza] at ht
     simp at hbad
     omega
    ·refine rnT ?_
     refine KW.rd (j+1) ⟨by omega,hB3.step b9,fun c hc=> ?_⟩
     rcases Nat.lt_or_ge c j with h|h
     ·exact htri3 c h
     ·obtain rfl:c=j:=by omega
      intro q1 q2
      rw [hxa,hya,hza]
      simp at hgood
      omega
   ·refine rnT ?_
    refine KW.rd (k+1) ⟨by omega,hB3,fun b c hb hc=> ?_⟩
    rcases Nat.lt_or_ge b k with h|h
    ·exact htri2 b c h hc
    ·obtain rfl:b=k:=by omega
     exact htri3 c (by omega)
  ·refine rnT ?_
   refine KW.rd (i+1) ⟨by omega,hB2,fun a b c ha hb hc=> ?_⟩
   rcases Nat.lt_or_ge a i with h|h
   ·exact htri a b c h hb hc
   ·obtain rfl:a=i:=by omega
    exact htri2 b c (by omega) hc
 ·refine rnT ?_
  refine rt1 rfl ⟨hB1,by rw [dec_pos (fun a b c ha hb hc=>htri a b c (by omega) hb hc)]⟩
theorem vdistances_c {v:Value} (hd:SD w v d):Gives Tryz.prog 93 #[v] w fun u w'=>Below w.heap.size w w'∧u= .bool (dec (WfD d)):=by
 obtain ⟨A,cap,rfl,hcap⟩:=hd.form
 have hmax:d.length≤9223372036854775807:=hd.len.2.2
 refine gv (f:=93) ?_
 refine rnT ?_
 refine CW.condP rfl (fun hbig=> ?_) (fun hsmall=> ?_)
 ·refine rnT ?_
  refine rt1 rfl ⟨Below.refl _ _,by rw [dec_neg (fun h=>by have:=h.few; omega)]⟩
 have h12:d.length≤12:=by omega
 refine rnT ?_
 refine CW.lp [0,10,11] (fun k:Nat=> [(12,none,.int .i64 (k:Int))])
  (fun k W=>k≤d.length∧W=w∧ ∀(i:Nat) (r:List Int),i<k→d[i]?=some r→RowOK d i r) (fun k=>d.length-k) 0 ⟨by omega,rfl,fun i r hi=>by omega⟩ ?_
 rintro k W ⟨hk,rfl,hrows⟩
 refine rnT ?_
 refine CW.condP rfl (fun hlt=> ?_) (fun hge=> ?_)
 ·have hkl:k<d.length:=by omega
  obtain ⟨r,hr⟩: ∃r,d[k]?=some r:=⟨d[k],List.getElem?_eq_getElem hkl⟩
  obtain ⟨ad,rfl⟩:=hd.addr (by omega)
  obtain ⟨rv,hcell,hrow⟩:=hd.row hr
  obtain ⟨B,rcap,rfl,_⟩:=hrow.form
  have hrmax:=hrow.len.2.2
  refine rnT ?_
  refine TW.ld rfl hcell ?_
  refine rnT ?_
  refine CW.pk [0,3,4,10,11,12,21] rfl ?_
  refine CW.condP rfl (fun hlen=> ?_) (fun hlen=> ?_)
  ·refine rnT ?_
   refine rt1 rfl ⟨Below.refl _ _,by rw [dec_neg (fun h=>by have:=(h.rowOK hr).len; omega)]⟩
  have hle:r.length=d.length:=by omega
  refine rnT ?_
  refine CW.lp [0,3,10,11,12,22,23] (fun j:Nat=> [(24,none,.int .i64 (j:Int))])
   (fun j W'=>j≤r.length∧W'=W∧(∀(i:Nat) (y:Int),i<j→r[i]?=some y→ -1≤y∧y≤1000000)∧(k<j→r[k]?=some 0)) (fun j=>r.length-j) 0 ⟨by omega,rfl,fun i y hi=>by omega,fun h=>by omega⟩ ?_
  rintro j W' ⟨hj,rfl,hrng,hdg⟩
  refine rnT ?_
  refine CW.condP rfl (fun hlt2=> ?_) (fun hge2=> ?_)
  ·have hjl:j<r.length:=by omega
   obtain ⟨y,hy⟩: ∃y,r[j]?=some y:=⟨r[j],List.getElem?_eq_getElem hjl⟩
   obtain ⟨bd,rfl⟩:=hrow.addr (by omega)
   refine rnT ?_
   refine TW.ld rfl (hrow.getI hy) ?_
   refine rnT ?_
   refine TW.cl rfl (vwithin_c) ?_
   rintro u w2 ⟨rfl,rfl⟩
   refine rnT ?_
   refine CW.pk [0,3,5,6,10,11,12,22,23,24,40] rfl ?_
   refine CW.cond rfl (fun hbad=> ?_) (fun hgood=> ?_)
   ·refine rnT ?_
    refine rt1 rfl ⟨Below.refl _ _,?_⟩
    rw [dec_neg]
    intro h
    have h1:=(h.rowOK hr).rng j y hy
    have h2:=(h.rowOK hr).diag
    simp at hbad
    by_cases e:k=j
    ·subst e
     rw [hy] at h2
     simp at h2
     omega
    ·omega
   ·refine rnT ?_
    have hg:(-1≤y∧y≤1000000)∧(k=j→y=0):=by
     simp at hgood
     omega
    refine KW.rd (j+1) ⟨by omega,rfl,fun i z hi hz=> ?_,fun hkj=> ?_⟩
    ·rcases Nat.lt_or_ge i j with h|h
     ·exact hrng i z h hz
     ·obtain rfl:i=j:=by omega
      rw [hy] at hz; cases hz
      exact hg.1
    ·rcases Nat.lt_or_ge k j with h|h
     ·exact hdg h
     ·obtain rfl:k=j:=by omega
      rw [hy,hg.2 rfl]
  ·refine rnT ?_
   refine KW.rd (k+1) ⟨by omega,rfl,fun i r' hi hr'=> ?_⟩
   rcases Nat.lt_or_ge i k with h|h
   ·exact hrows i r' h hr'
   ·obtain rfl:i=k:=by omega
    rw [hr] at hr'; cases hr'
    exact ⟨hle,hdg (by omega),fun j y hy=>hrng j y (by have:=(List.getElem?_eq_some_iff.1 hy).1; omega) hy⟩
 ·have hrows': ∀(i:Nat) (r:List Int),d[i]?=some r→RowOK d i r:=fun i r hr=>hrows i r (by have:=(List.getElem?_eq_some_iff.1 hr).1; omega) hr
  refine rnT ?_
  refine TW.cl rfl (shortest_c hd hrows') ?_
  rintro y w2 ⟨b2,rfl⟩
  refine rnT ?_
  refine rt1 rfl ⟨b2,?_⟩
  by_cases h: ∀a b c,a<d.length→b<d.length→c<d.length→Tri d a b c
  ·rw [dec_pos h,dec_pos (wfd_of h12 hrows' h)]
  ·rw [dec_neg h,dec_neg fun hw=>h fun a b c ha hb hc=>hw.tri a b c ha hb hc]
theorem vfitting_c {dv lv:Value} {l:List Ev} {W:Option Addr} {nw wc:Nat} (hd:SD w dv d) (hl:SE w lv l) (hnw:nw≤9223372036854775807):Gives Tryz.prog 37 #[dv,lv,.slice W nw wc] w fun x w'=>Below w.heap.size w w'∧x= .bool (dec (FitW d l nw)):=by
 obtain ⟨A,cap,rfl,_⟩:=hd.form
 obtain ⟨B,bcap,rfl,_⟩:=hl.form
 have hmax:=hl.len.2.2
 have hdm:=hd.len.2.2
 refine gv (f:=37) ?_
 refine rnT ?_
 refine TW.callF (cap:= []) rfl rfl en93 rfl ct (Args.cons rfl id Args.nil) (fun _=>vdistances_c hd) ?_
 rintro w1 b1
 refine rnT ?_
 refine CW.pk [0,1,2,6,21] rfl ?_
 refine CW.cond rfl (fun hbad=> ?_) (fun hgood=> ?_)
 ·refine rnT ?_
  refine rt1 rfl ⟨b1,?_⟩
  rw [dec_neg fun h=> ?_]
  rw [dec_pos h.wd] at hbad
  have:=h.few
  have:=h.worlds
  simp at hbad
  omega
 have hg:l.length≤14∧nw≤400∧WfD d:=by
  cases hq:dec (WfD d) with
  | false=>rw [hq] at hgood; simp at hgood
  | true =>
   rw [hq] at hgood
   simp at hgood
   exact ⟨by omega,by omega,dec_iff.1 hq⟩
 refine rnT ?_
 refine CW.lp [0,22,23] (fun k:Nat=> [(24,none,.int .i64 (k:Int))])
  (fun k W2=>k≤l.length∧Below w1.heap.size w1 W2∧ ∀e∈l.take k,EOK d e) (fun k=>l.length-k) 0 ⟨by omega,Below.refl _ _,by simp⟩ ?_
 rintro k W2 ⟨hk,hB,heach⟩
 have hb:=b1.step hB
 refine rnT ?_
 refine CW.condP rfl (fun hlt=> ?_) (fun hge=> ?_)
 ·obtain ⟨e,he,hem⟩:=getx (l:=l) (k:=k) (by omega)
  have hl3:=se_step hl hb
  obtain ⟨ad,rfl⟩:=hl3.addr (by omega)
  obtain ⟨nv,hcells,i1,i2,i3,hneeds⟩:=SE.get hl3 he
  obtain ⟨C,ncap,rfl,_⟩:=hneeds.form
  refine rnT ?_
  refine TW.ldS rfl (hcells) ?_
  refine TW.newVar rfl zc60 rfl sz60 rfl rfl ?_
  rintro g4 w4 f4
  refine rnT ?_
  refine TW.ld rfl (f4.blk.fld rfl) ?_
  refine rnT ?_
  refine TW.cl rfl (vwithin_c) ?_
  rintro u w5 ⟨rfl,rfl⟩
  refine rnT ?_
  refine CW.pk [0,8,22,23,24,34] rfl ?_
  refine CW.cond rfl (fun hbad2=> ?_) (fun hgood2=> ?_)
  ·refine rnT ?_
   refine rt1 rfl ⟨hb.step f4.below,?_⟩
   rw [dec_neg fun h=> ?_]
   have h1:=h.each e hem
   have:=h1.o1
   have:=h1.o2
   simp at hbad2
   omega
  ·refine rnT ?_
   refine KW.rd (k+1) ⟨by omega,hB.step f4.below,fun e' he'=> ?_⟩
   rw [List.take_add_one,he] at he'
   rcases List.mem_append.1 he' with he'|he'
   ·exact heach e' he'
   ·simp at he'
    subst he'
    simp at hgood2
    exact ⟨by omega,by omega⟩
 ·refine rnT ?_
  refine rt1 rfl ⟨hb,?_⟩
  rw [List.take_of_length_le (by omega)] at heach
  rw [dec_pos ⟨hg.1,hg.2.1,hg.2.2,heach⟩]
theorem OFs.get {F:Nat→Prop} {ad:Addr} {cap:Nat} {l:List Of} (h:SL ofT F w (.slice (some ad) n cap) l) {i:Nat} {o:Of} (hx:l[i]?=some o) :
  ∃ v,∀j u,(ofV o v)[j]?=some u→w.cell? ((ad.add ((i:Int).toNat*7)).add j)=some u:=by
 obtain ⟨ad',cs,h1,_,⟨v,rfl,_⟩,hc⟩:=h.at hx
 cases h1
 exact ⟨v,hc⟩
theorem LIs.get {F:Nat→Prop} {ad:Addr} {cap:Nat} {l:List Li} (h:SL liT F w (.slice (some ad) n cap) l) {i:Nat} {o:Li} (hx:l[i]?=some o) :
  ∀ j u,(liV o)[j]?=some u→w.cell? ((ad.add ((i:Int).toNat*6)).add j)=some u:=by
 obtain ⟨ad',cs,h1,_,⟨rfl,_⟩,hc⟩:=h.at hx
 cases h1
 exact hc
def clV (c:Cl):List Value:= [.string c.label,.int .i64 c.fr,.int .i64 c.to,.int .i64 c.cls,.int .i64 c.acc,.int .i64 c.due,.int .i64 c.amt]
structure ClI (c:Cl):Prop where
 f:I64 c.fr
 t:I64 c.to
 k:I64 c.cls
 a:I64 c.acc
 d:I64 c.due
 m:I64 c.amt
theorem vwithinB_c {x a b:Int}:Gives Tryz.prog 94 #[.int .i64 x,.int .i64 a,.int .i64 b] w fun u w'=>Below w.heap.size w w'∧u= .bool (decide (a≤x∧x≤b)):=vwithin_c.mono fun _ _ ⟨h1,h2⟩=>⟨h1 ▸ Below.refl _ _,h2⟩
theorem vwell_c {v:NV} {N:Net} {c:Cl} (hN:NetAt w v N):Gives Tryz.prog 38 #[.agg v.cells.toArray,.agg (clV c).toArray] w fun u w'=>Below w.heap.size w w'∧u= .bool (dec (ClOK N c)):=by
 have hform:=NetIn.form hN
 obtain ⟨vc,vn,vo,vf,vl,vk⟩:=v
 obtain ⟨⟨A1,c1,e1⟩,⟨A2,c2,e2⟩,⟨A3,c3,e3⟩,⟨A4,c4,e4⟩,⟨A5,c5,e5⟩,⟨A6,c6,e6⟩⟩:=id hform
 dsimp only at e1 e2 e3 e4 e5 e6
 subst e1 e2 e3 e4 e5 e6
 have hmax:=hN.f.len.2.2
 have hmax5:=hN.l.len.2.2
 refine gv (f:=38) ?_
 refine rnT ?_
 refine TW.box rfl rfl rfl rfl ?_
 rintro g2 w1 f1
 refine TW.box rfl rfl rfl rfl ?_
 rintro g3 w2 f2
 refine rnT ?_
 have b2:=f1.below.step f2.below
 have hN2:=f1.blk.next f2.below
 have hC2:=f2.blk
 refine TW.ld rfl (hC2.fld (j:=1) rfl) ?_
 refine rnT ?_
 refine TW.ld rfl (hN2.fld (j:=3) rfl) ?_
 refine rnT ?_
 refine TW.cl rfl (vwithinB_c) ?_
 rintro y w3 ⟨b3,rfl⟩
 refine rnT ?_
 refine TW.ld rfl ((hC2.next b3).fld (j:=2) rfl) ?_
 refine rnT ?_
 refine TW.ld rfl ((hN2.next b3).fld (j:=3) rfl) ?_
 refine rnT ?_
 refine TW.callF (cap:= []) rfl rfl en94 rfl ct (Args.cons rfl id (Args.cons rfl ct (Args.cons rfl id Args.nil))) (fun _=>vwithinB_c) ?_
 rintro w4 b4
 refine rnT ?_
 have b24:=b3.step b4
 refine TW.ld rfl ((hC2.next b24).fld (j:=4) rfl) ?_
 refine TW.callF (cap:= []) rfl rfl en94 rfl ct (Args.cons rfl id (Args.cons rfl ct (Args.cons rfl ct Args.nil))) (fun _=>vwithinB_c) ?_
 rintro w5 b5
 refine rnT ?_
 have b25:=b24.step b5
 refine TW.ld rfl ((hC2.next b25).fld (j:=5) rfl) ?_
 refine rnT ?_
 refine TW.ld rfl ((hC2.next b25).fld (j:=4) rfl) ?_
 refine TW.callF (cap:= []) rfl rfl en94 rfl ct (Args.cons rfl id (Args.cons rfl id (Args.cons rfl ct Args.nil))) (fun _=>vwithinB_c) ?_
 rintro w6 b6
 refine rnT ?_
 have b26:=b25.step b6
 refine TW.ld rfl ((hC2.next b26).fld (j:=6) rfl) ?_
 refine TW.callF (cap:= []) rfl rfl en94 rfl ct (Args.cons rfl id (Args.cons rfl ct (Args.cons rfl ct Args.nil))) (fun _=>vwithinB_c) ?_
 rintro w7 b7
 refine rnT ?_
 refine rt1 rfl ⟨b2.step (b26.step b7),?_⟩
 by_cases h:ClOK N c
 ·rw [dec_pos h]
  obtain ⟨h1,h2,h3,h4,h5,h6,h7,h8,h9⟩:=h
  simp
  omega
 ·rw [dec_neg h,Value.bool.injEq,Bool.eq_false_iff]
  intro hq
  simp only [Bool.and_eq_true,decide_eq_true_eq] at hq
  exact h ⟨by omega,by omega,by omega,by omega,by omega,by omega,by omega,by omega,by omega⟩
theorem isIndexL_c {i:Int} {A:Option Addr} {c:Nat}:Gives Tryz.prog 66 #[.int .i64 i,.slice A n c] w fun u w'=>Below w.heap.size w w'∧u= .bool (decide (0≤i∧i<(n:Int))):=by
 refine gv (f:=66) ?_
 refine rnT ?_
 refine rt1 rfl ⟨Below.refl _ _,?_⟩
 by_cases h1:0≤i<;>by_cases h2:i<(n:Int)<;>simp [h1,h2]
theorem owner_c {v:NV} {N:Net} {s:Spt} (ht:Tabs w) (hN:NetAt w v N):Gives Tryz.prog 24 #[.agg v.cells.toArray,.agg (spV s).toArray] w fun u w'=>Below w.heap.size w w'∧u= .int .i64 (ownS N s):=by
 have hform:=NetIn.form hN
 obtain ⟨vc,vn,vo,vf,vl,vk⟩:=v
 obtain ⟨⟨A1,c1,e1⟩,⟨A2,c2,e2⟩,⟨A3,c3,e3⟩,⟨A4,c4,e4⟩,⟨A5,c5,e5⟩,⟨A6,c6,e6⟩⟩:=id hform
 dsimp only at e1 e2 e3 e4 e5 e6
 subst e1 e2 e3 e4 e5 e6
 have hmax:=hN.f.len.2.2
 have hmax5:=hN.l.len.2.2
 refine gv (f:=24) ?_
 refine rnT ?_
 refine TW.box rfl rfl rfl rfl ?_
 rintro g2 w1 f1
 refine TW.box rfl rfl rfl rfl ?_
 rintro g3 w2 f2
 refine rnT ?_
 have b2:=f1.below.step f2.below
 have hV2:=f1.blk.next f2.below
 have hC2:=f2.blk
 have hN2:=net_step hN b2
 refine TW.ldS rfl (fun _ _ hv=>hV2.fld hv) ?_
 refine TW.cl rfl (incon_c (v:=⟨.slice A1 N.cals.length c1,.slice A2 N.names.length c2,.slice A3 N.ops.length c3,.slice A4 N.offs.length c4,.slice A5 N.lines.length c5,.slice A6 N.classes.length c6⟩) (ht.below b2) hN2) ?_
 rintro y3 w3 ⟨d3,n,hR,hn,hiff⟩
 obtain ⟨Y,yc,rfl⟩:=FRow.form hR
 have b3:=b2.step d3
 have hV3:=hV2.next d3
 have hC3:=hC2.next d3
 have hN3:=net_step hN2 d3
 refine rnT ?_
 refine CW.condP rfl (fun hbad=> ?_) (fun hgood=> ?_)
 ·refine rnT ?_
  refine rt1 rfl ⟨b3,?_⟩
  unfold ownS
  rw [dec_neg fun h=>by have:=hiff.2 h; omega]
  rfl
 have hc:ConsOK keys11 N:=hiff.1 (by omega)
 have hown:ownS N s=if s.2= -1∧0≤s.1∧s.1<N.offs.length then (N.offs[s.1.toNat]?.map (·.op)).getD 0
   else if s.1= -1∧0≤s.2∧s.2<N.lines.length then ((N.lines[s.2.toNat]?.bind fun l=>N.offs[l.frm.toNat]?).map (·.op)).getD 0 else -1:=by
  unfold ownS
  rw [dec_pos hc,if_neg (by simp)]
 rw [hown]
 refine rnT ?_
 refine TW.ld rfl (hC3.fld (j:=1) rfl) ?_
 refine rnT ?_
 refine TW.ld rfl (hC3.fld (j:=0) rfl) ?_
 refine rnT ?_
 refine TW.ld rfl (hV3.fld (j:=3) rfl) ?_
 refine TW.callF (cap:= []) rfl rfl en65 rfl ct (Args.cons rfl id (Args.cons rfl id Args.nil)) (fun _=>isIndexF_c) ?_
 rintro w4 b4
 refine rnT ?_
 refine CW.pk [0,1,2,3,4,9] rfl ?_
 have hV4:=hV3.next b4
 have hC4:=hC3.next b4
 have hN4:=net_step hN3 b4
 refine CW.cond rfl (fun h1=> ?_) (fun h2=> ?_)
 ·have h1':s.2= -1∧0≤s.1∧s.1<N.offs.length:=by simp at h1; omega
  rw [if_pos h1']
  obtain ⟨o,ho,hom⟩:=getx (l:=N.offs) (k:=s.1.toNat) (by omega)
  have hf:=hN4.f
  obtain ⟨ad,rfl⟩: ∃ad,A4=some ad:=hf.addr (by omega)
  obtain ⟨ov,hcells⟩:=OFs.get hf ho
  rw [show ((s.1.toNat:Nat):Int)=s.1 by omega] at hcells
  refine rnT ?_
  refine TW.ld rfl (hV4.fld (j:=3) rfl) ?_
  refine rnT ?_
  refine TW.ld rfl (hC4.fld (j:=0) rfl) ?_
  refine rnT ?_
  refine TW.ld rfl (hcells 1 _ rfl) ?_
  refine rnT ?_
  refine rt1 rfl ⟨b3.step b4,by rw [ho]; rfl⟩
 ·have h2': ¬(s.2= -1∧0≤s.1∧s.1<N.offs.length):=by simp at h2; omega
  rw [if_neg h2']
  refine rnT ?_
  refine TW.ld rfl (hC4.fld (j:=0) rfl) ?_
  refine rnT ?_
  refine TW.ld rfl (hC4.fld (j:=1) rfl) ?_
  refine rnT ?_
  refine TW.ld rfl (hV4.fld (j:=4) rfl) ?_
  refine TW.callF (cap:= []) rfl rfl en66 rfl ct (Args.cons rfl id (Args.cons rfl id Args.nil)) (fun _=>isIndexL_c) ?_
  rintro w5 b5
  refine rnT ?_
  refine CW.pk [0,1,2,3,4,27] rfl ?_
  have hV5:=hV4.next b5
  have hC5:=hC4.next b5
  have hN5:=net_step hN4 b5
  refine CW.cond rfl (fun h3=> ?_) (fun h4=> ?_)
  ·have h3':s.1= -1∧0≤s.2∧s.2<N.lines.length:=by simp at h3; omega
   rw [if_pos h3']
   obtain ⟨l,hl,hlm⟩:=getx (l:=N.lines) (k:=s.2.toNat) (by omega)
   have hg:=hc.lines.good l hlm
   have g1:=hg.f1
   have g2:=hg.f2
   obtain ⟨o,ho,hom⟩:=getx (l:=N.offs) (k:=l.frm.toNat) (by omega)
   have hf:=hN5.f
   have hll:=hN5.l
   obtain ⟨ad,rfl⟩: ∃ad,A4=some ad:=hf.addr (by omega)
   obtain ⟨ae,rfl⟩: ∃ae,A5=some ae:=hll.addr (by omega)
   obtain ⟨ov,hcells⟩:=OFs.get hf ho
   have hlc:=LIs.get hll hl
   rw [show ((s.2.toNat:Nat):Int)=s.2 by omega] at hlc
   rw [show ((l.frm.toNat:Nat):Int)=l.frm by omega] at hcells
   refine CW.seq ?_
   refine CW.draw mixed (by kernel_rfl) ?_
   refine rnD ?_
   refine DW.ld rfl (hV5.fld (j:=3) rfl) ?_
   refine rnD ?_
   refine DW.ld rfl (hV5.fld (j:=4) rfl) ?_
   refine rnD ?_
   refine DW.ld rfl (hC5.fld (j:=1) rfl) ?_
   refine rnD ?_
   refine DW.ld rfl (hlc 1 _ rfl) ?_
   refine rnD ?_
   refine DW.ld rfl (hcells 1 _ rfl) ?_
   refine rnD ?_
   refine DW.fi [0,1,2,3,4] rfl fun w6 b6=> ?_
   refine rnT ?_
   refine rt1 rfl ⟨(b3.step b4).step (b5.step b6),?_⟩
   rw [hl]
   dsimp only [Option.bind_some]
   rw [ho]
   rfl
  ·have h4': ¬(s.1= -1∧0≤s.2∧s.2<N.lines.length):=by simp at h4; omega
   rw [if_neg h4']
   refine rnT ?_
   refine rt1 rfl ⟨(b3.step b4).step b5,rfl⟩
end Go.Proofs.YtobaafdejnimkaaGreatDoor
namespace Go.Ord
def othR (r:Nat):Bool:=decide ((r<65∨90<r)∧(r<48∨57<r)∧r≠46)
theorem othR_iff {r:Nat}:othR r=false↔okB r:=by
 unfold othR okB
 rw [decide_eq_false_iff_not]
 omega
theorem get_byteAt {s:ByteArray} {i:Nat} (h:i<s.size):(s.get! i).toNat=byteAt s i:=by
 unfold byteAt ByteArray.get!
 have h':i<s.data.size:=h
 simp only [Array.getD]
 rw [dif_pos h',getElem!_pos s.data i h']
 rfl
theorem decode_low {s:ByteArray} {i:Nat} (h:byteAt s i<128) (hi:i<s.size):Utf8.decode s i=(byteAt s i,1):=by
 unfold Utf8.decode
 have:(s.get! (i+0)).toNat=byteAt s i:=get_byteAt hi
 simp only [this]
 rw [if_pos h]
theorem decode_high {s:ByteArray} {i:Nat} (h: ¬byteAt s i<128) (hi:i<s.size):128≤(Utf8.decode s i).1:=by
 unfold Utf8.decode
 have:(s.get! (i+0)).toNat=byteAt s i:=get_byteAt hi
 simp only [this]
 rw [if_neg h]
 split
 ·split
  ·rename_i h1 h2; simpa using h2
  ·show 128≤Utf8.runeError; decide
 ·split
  ·split
   ·rename_i h1 h2; simp at h2 ⊢; omega
   ·show 128≤Utf8.runeError; decide
  ·split
   ·split
    ·rename_i h1 h2; simp at h2 ⊢; omega
    ·show 128≤Utf8.runeError; decide
   ·show 128≤Utf8.runeError; decide
theorem idx_lab (s:ByteArray): ∀(f pos:Nat),s.size≤pos+f→(Lib.idxFuncFrom othR true s f pos= -1↔ ∀i,pos≤i→i<s.size→okB (byteAt s i))
 | 0,pos,h=>by
  unfold Lib.idxFuncFrom
  exact ⟨fun _ i h1 h2=>by omega,fun _=>rfl⟩
 | f+1,pos,h=>by
  unfold Lib.idxFuncFrom
  by_cases hp:pos<s.size
  ·rw [if_pos hp]
   by_cases hl:byteAt s pos<128
   ·rw [decode_low hl hp]
    dsimp only
    by_cases ho:othR (byteAt s pos)=true
    ·rw [if_pos ho]
     constructor
     ·intro h1; omega
     ·intro h1
      have:=othR_iff.2 (h1 pos (Nat.le_refl _) hp)
      rw [this] at ho
      cases ho
    ·rw [if_neg ho,idx_lab s f (pos+1) (by omega)]
     have hok:okB (byteAt s pos):=othR_iff.1 (by simpa using ho)
     constructor
     ·intro h1 i h2 h3
      by_cases e:i=pos
      ·subst e; exact hok
      ·exact h1 i (by omega) h3
     ·intro h1 i h2 h3
      exact h1 i (by omega) h3
   ·have hh:=decode_high hl hp
    have ho:othR (Utf8.decode s pos).1=true:=by
     unfold othR
     exact decide_eq_true (by omega)
    rw [if_pos ho]
    constructor
    ·intro h1; omega
    ·intro h1
     have:=h1 pos (Nat.le_refl _) hp
     unfold okB at this
     omega
  ·rw [if_neg hp]
   exact ⟨fun _ i h1 h2=>by omega,fun _=>rfl⟩
theorem lab_idx (s:ByteArray):decide (0≤Lib.idxFunc othR true s)= !Go.PF.dec (∀i,i<s.size→okB (byteAt s i)):=by
 have h:=idx_lab s s.size 0 (by omega)
 by_cases hq: ∀i,i<s.size→okB (byteAt s i)
 ·rw [Go.PF.dec_pos hq]
  unfold Lib.idxFunc
  rw [h.2 fun i _ hi=>hq i hi]
  rfl
 ·rw [Go.PF.dec_neg hq]
  have hne:Lib.idxFuncFrom othR true s s.size 0≠ -1:=fun e=>hq fun i hi=>h.1 e i (Nat.zero_le _) hi
  rcases Lib.idxFuncFrom_range othR true s s.size 0 with h1|h1
  ·exact absurd h1 hne
  ·unfold Lib.idxFunc
   rw [decide_eq_true (by omega)]
   rfl
end Go.Ord
namespace Go.PF
open Go.RowKit
section
variable {P:Program} {r:Option Nat} {Q:Exit→Act→World→Prop} {N:Nat} {ds:List Deferred} {ops rest:List Oper} {E:Env} {w:World} {G:Option Bool}
variable {d:Option Tmp} {ty:TypeId} {pos:String} {af:Array Edge} {gu:Option (Nat×Bool)} {ρ:Operand→Value}
theorem X.callB {f:Operand} {k:FuncId} {fst cap:List Value} {xs:List Operand} {vs:List Value} {ts:Array TypeId} (he:enters P k=true) (hf:ρ f= .func (.func k) fst.toArray cap.toArray) (hv:xs.map ρ=vs) :
  (execOp ρ ⟨d,.call ⟨.value f,xs.toArray,ts⟩,ty,pos,af,gu⟩).run P w= .ok (.enter k (fst++vs++cap).toArray) w:=by
 have h1:=run_enters (P:=P) he
 simp [execOp,resolve,hf,hv,Deferred.ofValue,Go.invoke,h1]
theorem TW.callB {f:Operand} {k:FuncId} {fst cap:List Value} {xs:List Operand} {vs:List Value} {ts:Array TypeId} {R:Value→World→Prop} (hg:gu=none) (hd:okDst N d=true) (he:enters P k=true)
  (hf:ev E f=some (none,.func (.func k) fst.toArray cap.toArray)) (hv:Args N ds E none xs vs) (hc:Gives P k (fst++vs++cap).toArray w R)
  (next: ∀v w',R v w'→TW P r Q N ds ops rest (ins E d none v) w'):TW P r Q N ds ops (⟨d,.call ⟨.value f,xs.toArray,ts⟩,ty,pos,af,gu⟩::rest) E w :=
 TW.enter0 hg hd rfl (fun a ha=>X.callB he (ha.eval hf trivial) (hv a ha trivial)) hc next
theorem X.makeFuncB {fn:Fn} {fst cap:List Operand} {us vs:List Value} (hu:fst.map ρ=us) (hv:cap.map ρ=vs):(execOp ρ ⟨d,.makeFunc fn fst.toArray cap.toArray,ty,pos,af,gu⟩).run P w= .ok (.value (.func fn us.toArray vs.toArray)) w:=by
 simp [execOp,Instr.makeFunc,hu,hv]
theorem TW.makeFuncB {fn:Fn} {fst cap:List Operand} {us vs:List Value} (hg:gd ops E gu=some G) (hd:okDst N d=true) (hu:Args N ds E G fst us) (hv:Args N ds E G cap vs)
  (next:TW P r Q N ds ops rest (ins E d G (.func fn us.toArray vs.toArray)) w):TW P r Q N ds ops (⟨d,.makeFunc fn fst.toArray cap.toArray,ty,pos,af,gu⟩::rest) E w :=
 TW.val hg hd rfl (fun hG a ha=>X.makeFuncB (hu a ha hG) (hv a ha hG)) next
theorem V.remT {m n:Int} {x y:Operand} {t t':TypeId} (hn:1≤n∧n≤9223372036854775807):Val P ⟨d,.binOp .rem t x y t',ty,pos,af,gu⟩ [x,y] [.int .i64 m,.int .i64 n] True (.int .i64 (m.tmod n)) :=
 ⟨rfl,by simp [Op.operands,Call.operands],fun _ ρ w h=>by
  obtain ⟨hx,hy⟩:=map2 h
  simp only [execOp]; rw [hx,hy,eqGuard_rem,binOp_rem]
  have h0:n≠0:=by omega
  have h1:=Int.lt_tmod_of_pos m (show 0<n by omega)
  have h2:=Int.tmod_lt_of_pos m (show 0<n by omega)
  simp [Op.intDiv,h0,wrap_fits (z:=m.tmod n) (by omega)]⟩
end
def Thk (P:Program) (fv:Value) (vs:List Value) (w:World) (R:Value→World→Prop):Prop:= ∃k fst cap,fv= .func (.func k) (List.toArray fst) (List.toArray cap)∧enters P k=true∧Gives P k (fst++vs++cap).toArray w R
end Go.PF
namespace Go.Proofs.YtobaafdejnimkaaGreatDoor
open Go.PF Go.RowKit Go.Ord
attribute [local irreducible] TW CW KW DW
variable {w:World} {F:Nat→Prop} {s:ByteArray} {v kv:Value} {l ks:List Int} {d:Dc} {n:Int} {i:Nat}
theorem remM:(n.tmod 2147483647<0→n.tmod 2147483647+2147483647=n%2147483647)∧(¬n.tmod 2147483647<0→n.tmod 2147483647=n%2147483647):=by
 have h1:=Int.emod_nonneg n (b:=2147483647) (by decide)
 have h2:=Int.emod_lt_of_pos n (b:=2147483647) (by decide)
 have h3:=Int.emod_add_mul_ediv n 2147483647
 have h4:=Int.tmod_add_mul_tdiv n 2147483647
 have h5: -2147483647<n.tmod 2147483647∧n.tmod 2147483647<2147483647:=⟨by
  have:=Int.lt_tmod_of_pos n (b:=2147483647) (by decide)
  omega,Int.tmod_lt_of_pos n (by decide)⟩
 constructor<;>intro h<;>omega
theorem sum_snoc {x:Int} (hx:l[i]?=some x):sumS (l.take (i+1))=stp (sumS (l.take i)) x:=by
 rw [List.take_add_one,hx]
 simp [sumS]
theorem sum_c (h:SL intT F w v l):Gives Tryz.prog 213 #[v] w fun u w'=>w'=w∧u= .int .i64 (sumS l):=by
 obtain ⟨A,cap,rfl,_⟩:=h.form
 have hmax:=h.len.2.2
 refine gv (f:=213) ?_
 refine rnT ?_
 refine CW.lp [7,8] (fun i:Nat=> [(3,none,.int .i64 (sumS (l.take i))),(9,none,.int .i64 (i:Int))])
  (fun i W=>i≤l.length∧W=w) (fun i=>l.length-i) 0 ⟨Nat.zero_le _,rfl⟩ ?_
 rintro i W ⟨hi,rfl⟩
 refine rnT ?_
 refine CW.condP rfl (fun hlt=> ?_) (fun hge=> ?_)
 ·obtain ⟨x,hx,hxm⟩:=getx (l:=l) (k:=i) (by omega)
  obtain ⟨ad,rfl⟩:=h.addr (by omega)
  have hr:=sumS_rng (l.take i)
  have hm:= @remM x
  have hb1:=Int.emod_nonneg x (b:=2147483647) (by decide)
  have hb2:=Int.emod_lt_of_pos x (b:=2147483647) (by decide)
  refine rnT ?_
  refine TW.ld rfl (h.getI hx) ?_
  refine TW.v V.assign rfl ⟨ct,trivial⟩ (fun _=>trivial) ?_
  refine TW.nil (KW.pick [3,5,7,8,9] [(3,_,_),(5,_,_),(7,_,_),(8,_,_),(9,_,_)] rfl (KW.then_ ?_))
  refine CW.seq (CW.region ?_)
  refine TW.v V.move rfl ⟨ct,trivial⟩ (fun _=>trivial) ?_
  refine TW.v (V.remT (by decide)) rfl ⟨ct,ct,trivial⟩ (fun _=>trivial) ?_
  refine rnT ?_
  refine CW.condP rfl (fun hneg=> ?_) (fun hpos=> ?_)
  ·refine rnT ?_
   rw [hm.1 hneg]
   refine KW.rd (i+1) ⟨by omega,rfl⟩ (hp:= ?_)
   rw [sum_snoc hx]
   rfl
  ·refine rnT ?_
   rw [hm.2 hpos]
   refine KW.rd (i+1) ⟨by omega,rfl⟩ (hp:= ?_)
   rw [sum_snoc hx]
   rfl
 ·refine rnT ?_
  refine rt1 rfl ⟨rfl,?_⟩
  rw [List.take_of_length_le (by omega)]
theorem dsum_c (h:SL intT F w v l):Gives Tryz.prog 140 #[v] w fun u w'=>w'=w∧u= .int .i64 (sumS l):=by
 refine gv (f:=140) ?_
 refine rnT ?_
 refine TW.cl rfl (sum_c h) ?_
 rintro y w1 ⟨rfl,rfl⟩
 refine rnT ?_
 refine rt1 rfl ⟨rfl,rfl⟩
theorem fill_next {α:Type} {l:List α} {n:Nat} {x z:α} (hx:l[i]?=some x) (hi:i<n):(l.take i++List.replicate (n-i) z).set i x=l.take (i+1)++List.replicate (n-(i+1)) z:=by
 have hl:=(List.getElem?_eq_some_iff.1 hx).1
 have e:n-i=(n-(i+1))+1:=by omega
 rw [List.set_append_right _ _ (by simp; omega),e,List.replicate_succ,List.take_add_one,hx]
 simp [Nat.min_eq_left (Nat.le_of_lt hl)]
theorem bytes_at (h:i<s.size):((bytesI s).map (Value.int .i64))[i]?=some (.int .i64 ((s.data.getD i 0).toNat:Int)):=by
 unfold bytesI
 rw [List.getElem?_map,List.getElem?_map,List.getElem?_range h]
 rfl
theorem bytes_i64: ∀x∈bytesI s,I64 x:=fun x hx=>by
 obtain ⟨i,_,rfl⟩:=List.mem_map.1 hx
 have:=(s.data.getD i 0).toNat_lt
 unfold byteAt
 exact ⟨by show (-9223372036854775808:Int)≤_; omega,by show _≤(9223372036854775807:Int); omega⟩
theorem bytes_len (s:ByteArray):(bytesI s).length=s.size:=by simp [bytesI]
theorem numb_c (hs:s.size≤1000000):Gives Tryz.prog 217 #[.string s] w fun u w'=>Below w.heap.size w w'∧SL intT (fun k=>w.heap.size≤k∧k<w'.heap.size) w' u (bytesI s):=by
 refine gv (f:=217) ?_
 refine rnT ?_
 refine TW.makeSlice rfl rfl (zero1_of go32 ze3 rfl) rfl rfl (by omega) (by omega) ?_
 rintro g w1 f1
 refine rnT ?_
 refine CW.pk [0,2,3,9,10] rfl ?_
 have hO1:OwnS w1 3 1 (.slice (some ⟨g,0,none⟩) s.size s.size) s.size ((List.replicate s.size (Value.int .i64 0))):=OwnS.of_blk f1.blk (by simp) (by omega)
 have hgs:=f1.at_
 refine CW.lp [0,3,9] (fun i:Nat=> [(10,none,.int .i64 (i:Int))])
  (fun i W=>i≤s.size∧But g w1 W∧w1.heap.size≤W.heap.size∧OwnS W 3 1 (.slice (some ⟨g,0,none⟩) s.size s.size) s.size (((bytesI s).map (Value.int .i64)).take i++List.replicate (s.size-i) (Value.int .i64 0))) (fun i=>s.size-i) 0 ⟨Nat.zero_le _,But.of_below (Below.refl _ _),Nat.le_refl _,by simpa using hO1⟩ ?_
 rintro i W ⟨hi,hB,hsz,hO⟩
 refine rnT ?_
 refine CW.condP rfl (fun hlt=> ?_) (fun hge=> ?_)
 ·have hib:i<s.size:=by omega
  have hbt:=(s.data.getD i 0).toNat_lt
  have e1:IntKind.i64.wrap ((s.data.getD i 0).toNat:Int)=((s.data.getD i 0).toNat:Int):=wrap_fits (by omega)
  refine rnT ?_
  refine TW.storeRow1 rfl sz3 rfl rfl hO (by simp [bytes_len]; omega) rfl ?_
  rintro w2 hO2 hb2 hs2
  refine rnT ?_
  refine KW.rd (i+1) ⟨by omega,hB.trans hb2,by omega,?_⟩
  rw [←fill_next (bytes_at hib) hib]
  simpa only [Nat.mul_one,Int.toNat_natCast,e1] using hO2
 ·refine rnT ?_
  have hie:i=s.size:=by omega
  subst hie
  have hb:=But.below f1.below hB (by omega)
  refine rt1 rfl ⟨hb,?_⟩
  rw [List.take_of_length_le (by simp [bytes_len]),Nat.sub_self,List.replicate_zero,List.append_nil,←bytes_len s] at hO
  rw [←bytes_len s]
  exact OwnS.toInts hO bytes_i64 (fun q hq=>⟨by simp [Value.ownBlock] at hq; omega,hO.lt hq⟩) (by rw [bytes_len]; omega)
theorem label_c (hs:s.size≤1000000):Gives Tryz.prog 214 #[.string s] w fun u w'=>Below w.heap.size w w'∧u= .int .i64 (labS s):=by
 refine gv (f:=214) ?_
 refine rnT ?_
 refine TW.cl rfl (numb_c hs) ?_
 rintro y w1 ⟨b1,h1⟩
 refine TW.cl rfl (sum_c h1) ?_
 rintro y w2 ⟨rfl,rfl⟩
 refine rnT ?_
 refine rt1 rfl ⟨b1,rfl⟩
theorem isLabel1_c {x:Nat}:Gives Tryz.prog 265 #[.int .i32 (x:Int)] w fun u w'=>Below w.heap.size w w'∧u= .bool (othR x):=by
 refine gv (f:=265) ?_
 refine rnT ?_
 refine rt1 rfl ⟨Below.refl _ _,?_⟩
 unfold othR
 by_cases h1:x<65<;>by_cases h2:90<x<;>by_cases h3:x<48<;>by_cases h4:57<x<;>by_cases h5:x=46<;>simp [h1,h2,h3,h4,h5]<;>omega
theorem containsR_c:Gives Tryz.prog 266 #[.string s,.func (.func 265) #[] #[]] w fun u w'=>Below w.heap.size w w'∧u= .bool (!dec (∀i,i<s.size→okB (byteAt s i))):=by
 refine Calls.mono (Tryz.strings_ContainsFunc_grows 265 #[] (fun args w=>run_enters en265 args w) othR s w fun W x _ _=>Calls.mono (isLabel1_c (w:=W) (x:=x)) ?_) ?_
 ·rintro e w' ⟨u,rfl,h1,rfl⟩
  exact ⟨rfl,h1⟩
 ·rintro e w' ⟨rfl,h⟩
  exact ⟨_,rfl,h,by rw [lab_idx]⟩
theorem isLab_c:Gives Tryz.prog 255 #[.string s] w fun u w'=>Below w.heap.size w w'∧u= .bool (dec (isLab s)):=by
 refine gv (f:=255) ?_
 refine rnT ?_
 refine CW.cond rfl (fun hbad=> ?_) (fun hgood=> ?_)
 ·refine rnT ?_
  refine rt1 rfl ⟨Below.refl _ _,?_⟩
  rw [dec_neg fun h=> ?_]
  have h1:=h.1
  have h2:=h.2.1
  simp at hbad
  omega
 have hs:1≤s.size∧s.size≤20:=by simp at hgood; omega
 refine rnT ?_
 refine TW.cl rfl (containsR_c) ?_
 rintro y w1 ⟨c1,rfl⟩
 refine rnT ?_
 refine rt1 rfl ⟨c1,?_⟩
 by_cases h: ∀i,i<s.size→okB (byteAt s i)
 ·rw [dec_pos h,dec_pos ⟨hs.1,hs.2,h⟩]; rfl
 ·rw [dec_neg h,dec_neg fun h'=>h h'.2.2]; rfl
def rcL (s:ByteArray):List Value:= [.int .i64 0,.int .i64 0,.int .i64 1,.int .i64 0,.string s,.slice none 0 0]
theorem complete1_c {m:Int}:Gives Tryz.prog 254 #[.int .i64 n,.int .i64 m] w fun u w'=>Below w.heap.size w w'∧u= .bool (decide (0≤n∧n≤m)):=by
 refine gv (f:=254) ?_
 refine rnT ?_
 refine rt1 rfl ⟨Below.refl _ _,by simp⟩
theorem complete_c:Gives Tryz.prog 240 #[.agg (rcL s).toArray] w fun u w'=>Below w.heap.size w w'∧u= .bool (dec (isLab s)):=by
 refine gv (f:=240) ?_
 refine rnT ?_
 refine TW.box rfl rfl rfl rfl ?_
 rintro g1 w1 f1
 refine rnT ?_
 refine TW.ld rfl (f1.blk.fld rfl) ?_
 refine TW.callF rfl rfl en254 rfl ct (Args.cons rfl ct (Args.cons rfl ct Args.nil)) (fun _=>complete1_c) ?_
 rintro w2 b2
 refine rnT ?_
 refine TW.ld rfl ((f1.blk.next b2).fld rfl) ?_
 refine TW.callF rfl rfl en254 rfl id (Args.cons rfl id (Args.cons rfl ct Args.nil)) (fun _=>complete1_c) ?_
 rintro w3 b3
 refine rnT ?_
 refine TW.ld rfl ((f1.blk.next (b2.step b3)).fld rfl) ?_
 refine TW.callF rfl rfl en254 rfl id (Args.cons rfl id (Args.cons rfl ct Args.nil)) (fun _=>complete1_c) ?_
 rintro w4 b4
 refine rnT ?_
 refine TW.ld rfl ((f1.blk.next ((b2.step b3).step b4)).fld rfl) ?_
 refine TW.callF (cap:= []) rfl rfl en255 rfl ct (Args.cons rfl id Args.nil) (fun _=>isLab_c) ?_
 rintro w5 b5
 refine rnT ?_
 refine CW.pk [0,1,2,3,28] rfl ?_
 have b15:=((b2.step b3).step b4).step b5
 have f5:=f1.blk.next b15
 have hbel:=f1.below.step b15
 refine CW.cond rfl (fun hbad=> ?_) (fun hgood=> ?_)
 ·refine rnT ?_
  refine rt1 rfl ⟨hbel,?_⟩
  cases hq:dec (isLab s) with
  | false=>rfl
  | true=>rw [hq] at hbad; simp at hbad
 ·have hlab:dec (isLab s)=true:=by
   cases hq:dec (isLab s) with
   | true=>rfl
   | false=>rw [hq] at hgood; simp at hgood
  refine rnT ?_
  refine TW.ld rfl (f5.fld rfl) ?_
  refine rnT ?_
  refine CW.condP rfl (fun hk1=> ?_) (fun hk1=> ?_)
  ·refine rnT ?_
   refine TW.ld rfl (f5.fld rfl) ?_
   refine rnT ?_
   refine rt1 rfl ⟨hbel,by rw [hlab]; rfl⟩
  ·exact absurd rfl hk1
theorem small0_c:Gives Tryz.prog 278 #[.int .i64 0] w fun u w'=>Below w.heap.size w w'∧u= .string ⟨#[48]⟩:=by
 refine gv (f:=278) ?_
 refine rnT ?_
 refine CW.pk [0,2,4] rfl ?_
 refine CW.condP rfl (fun h1=> ?_) (fun h2=> ?_)
 ·refine CW.seq (CW.region ?_)
  refine TW.v V.move rfl ⟨ct,trivial⟩ (fun _=>trivial) ?_
  refine TW.v V.move rfl ⟨ct,trivial⟩ (fun _=>trivial) ?_
  refine TW.v V.add rfl ⟨ct,ct,trivial⟩ (fun _=>by decide) ?_
  refine TW.v V.sliceSLH rfl ⟨ct,ct,ct,trivial⟩ (fun _=>by decide) ?_
  refine rnT ?_
  refine rt1 rfl ⟨Below.refl _ _,by rfl⟩
 ·exact absurd h2 (by decide)
theorem format0_c:Gives Tryz.prog 269 #[.int .i64 0,.int .i64 10] w fun u w'=>Below w.heap.size w w'∧u= .string ⟨#[48]⟩:=by
 refine gv (f:=269) ?_
 refine rnT ?_
 refine CW.condP rfl (fun h1=> ?_) (fun h2=> ?_)
 ·refine rnT ?_
  refine CW.pk [0,1,4,17] rfl ?_
  refine CW.cond rfl (fun h3=> ?_) (fun h4=> ?_)
  ·refine rnT ?_
   refine TW.cl rfl (small0_c) ?_
   rintro y w1 ⟨b1,rfl⟩
   refine rnT ?_
   refine rt1 rfl ⟨b1,rfl⟩
  ·exact absurd h4 (by decide)
 ·exact absurd rfl h2
theorem iitoa0_c:Gives Tryz.prog 257 #[.int .i64 0] w fun u w'=>Below w.heap.size w w'∧u= .string ⟨#[48]⟩:=by
 refine gv (f:=257) ?_
 refine rnT ?_
 refine TW.cl rfl (format0_c) ?_
 rintro y w1 ⟨b1,rfl⟩
 refine rnT ?_
 refine rt1 rfl ⟨b1,rfl⟩
theorem itoa0_c:Gives Tryz.prog 241 #[.int .i64 0] w fun u w'=>Below w.heap.size w w'∧u= .string ⟨#[48]⟩:=by
 refine gv (f:=241) ?_
 refine rnT ?_
 refine TW.cl rfl (iitoa0_c) ?_
 rintro y w1 ⟨b1,rfl⟩
 refine rnT ?_
 refine rt1 rfl ⟨b1,rfl⟩
theorem join_c {xs:List ByteArray} {sep:ByteArray} (h:OwnS w 9 1 v xs.length (xs.map Value.string)) (h0:0<xs.length) (hN:xs.length≤1000000) (hlen:(Lib.join (xs.map (·.data.toList)) sep.data.toList).length≤140737488355328) :
  Gives Tryz.prog 258 #[v,.string sep] w fun u w'=>Below w.heap.size w w'∧u= .string ⟨(Lib.join (xs.map (·.data.toList)) sep.data.toList).toArray⟩:=by
 rcases h.2 with ⟨rfl,h1⟩|⟨g,cap,cur,rfl,hg,hh,h1,h2,h3,h4⟩
 ·omega
 ·refine Calls.mono (Tryz.strings_Join g 0 cap xs sep w (fun j x hx=> ?_) (Array.getElem?_eq_some_iff.1 hh).1 (by omega) h1 hlen) ?_
  ·rw [Nat.mul_one] at h4
   have:(xs.map Value.string)[j]?=some (.string x):=by simp [hx]
   rw [←h4,List.getElem?_take] at this
   split at this
   ·simp [World.cell?,hh]
    simpa using this
   ·cases this
  ·rintro e w' ⟨rfl,hb⟩
   exact ⟨_,rfl,hb,rfl⟩
def wdsL (s:ByteArray):List ByteArray:= [⟨#[115,99,97,110]⟩,⟨#[48]⟩,⟨#[48]⟩,⟨#[48]⟩,s]
theorem line_c (hs:s.size≤1000) (h:OwnS w 9 1 v 5 ((wdsL s).map Value.string)) :
  Gives Tryz.prog 242 #[v] w fun u w'=>Below w.heap.size w w'∧ ∃t:ByteArray,u= .string t∧t≠⟨#[]⟩:=by
 refine gv (f:=242) ?_
 refine rnT ?_
 refine TW.cl rfl (join_c (xs:=wdsL s) h (by simp [wdsL]) (by simp [wdsL]) (by simp [Lib.join,wdsL]; omega)) ?_
 rintro y w1 ⟨b1,rfl⟩
 refine rnT ?_
 refine rt1 rfl ⟨b1,_,rfl,fun e=> ?_⟩
 have e2:=congrArg (fun t:ByteArray=>t.data.toList) e
 simp [wdsL,Lib.join] at e2
theorem text_c:Gives Tryz.prog 212 #[.agg (rcL s).toArray] w fun u w'=>Below w.heap.size w w'∧ ∃t:ByteArray,u= .string t∧(t=⟨#[]⟩↔ ¬isLab s):=by
 refine gv (f:=212) ?_
 refine rnT ?_
 refine TW.box rfl rfl rfl rfl ?_
 rintro g1 w1 f1
 refine rnT ?_
 refine TW.ldS rfl (fun _ _ hv=>f1.blk.fld hv) ?_
 refine TW.cl rfl (complete_c) ?_
 rintro y w2 ⟨b2,rfl⟩
 have hB2:=f1.blk.next b2
 refine rnT ?_
 refine CW.cond rfl (fun hbad=> ?_) (fun hgood=> ?_)
 ·refine rnT ?_
  refine rt1 rfl ⟨f1.below.step b2,_,rfl,fun _ h=> ?_,fun _=>rfl⟩
  rw [dec_pos h] at hbad
  cases hbad
 have hlab:isLab s:=dec_iff.1 (by simpa using hgood)
 have hs:=hlab.2.1
 refine rnT ?_
 refine TW.ld rfl (hB2.fld rfl) ?_
 refine rnT ?_
 refine CW.condP rfl (fun hk=> ?_) (fun hk=> ?_)
 ·exact absurd hk (by decide)
 refine rnT ?_
 refine CW.draw mixed (by kernel_rfl) ?_
 refine rnD ?_
 refine DW.ld rfl (hB2.fld rfl) ?_
 refine DW.cl (.ex (.string ⟨#[48]⟩)) trivial rfl (fun _ w' hb'=>itoa0_c) ?_
 refine rnD ?_
 refine DW.ld rfl (hB2.fld rfl) ?_
 refine DW.cl (.ex (.string ⟨#[48]⟩)) trivial rfl (fun _ w' hb'=>itoa0_c) ?_
 refine rnD ?_
 refine DW.ld rfl (hB2.fld rfl) ?_
 refine DW.cl (.ex (.string ⟨#[48]⟩)) trivial rfl (fun _ w' hb'=>itoa0_c) ?_
 refine rnD ?_
 refine DW.ld rfl (hB2.fld rfl) ?_
 refine DW.buildSliceB 9 _ (fun v W=> ∃g,v= .slice (some ⟨g,0,none⟩) 5 5∧w2.heap.size≤g∧Blk W g 9 ((wdsL s).map Value.string)) (fun _ _ _ hb ⟨g,h1,h2,h3⟩=>⟨g,h1,h2,h3.next hb⟩) rfl rfl rfl eo23 (PArgs.cons rfl ct (PArgs.cons rfl ct (PArgs.cons rfl ct (PArgs.cons rfl ct (PArgs.cons rfl ct PArgs.nil))))) rfl rfl rfl (fun _ vs w' hb' hs=> ?_) ?_
 ·obtain ⟨_,_,_,_,_,rfl,rfl,rfl,rfl,rfl,rfl⟩:=Sats.five hs
  exact ⟨fun v hv=>by simp at hv; rcases hv with rfl|rfl|rfl<;>rfl,fun g w'' f=>⟨g,rfl,by have:=f.at_; have:=hb'.size; omega,f.blk⟩⟩
 refine DW.assignP rfl rfl rfl ct (fun _ _ _ hb ⟨g,h1,h2,h3⟩=>⟨g,h1,h2,h3.next hb⟩) ?_
 refine DW.nil (DW.finX [0,1,2,3] [(0,_,_),(1,_,_),(2,_,_),(3,_,_)] rfl [4] rfl fun vs w3 b3 hs3=>KW.then_ ?_)
 obtain ⟨v4,rfl,h4⟩:=Sats.one hs3
 refine rnT ?_
 obtain ⟨g4,rfl,hg4,hB4⟩:=h4
 have hB3:=hB2.next b3
 refine TW.ld rfl (hB3.fld rfl) ?_
 refine TW.append (m:=0) (A:=none) [] rfl rfl go23 rfl (OwnS.of_blk hB4 (n:=5) (sz:=1) rfl (by decide)) rfl rfl (fun j u hj=>by simp at hj) (fun u hu=>by cases hu) (by decide) (by decide) ?_
 rintro v5 w5 hO5 hg5 hn5
 have b5:Below w.heap.size w w5:=((f1.below.step b2).step b3).grown hg5 ((f1.below.step b2).step b3).size (fun g hg=>by simp [Value.ownBlock] at hg; have:=f1.below.size; have:=b2.size; omega)
 refine TW.cl rfl (line_c (s:=s) (by omega) (by rw [List.append_nil] at hO5; exact hO5)) ?_
 rintro y w6 ⟨b6,t,rfl,ht⟩
 refine rnT ?_
 refine rt1 rfl ⟨b5.step b6,t,rfl,fun e=>absurd e ht,fun h=>absurd hlab h⟩
theorem hisLab_c:Gives Tryz.prog 136 #[.string s] w fun u w'=>Below w.heap.size w w'∧u= .bool (dec (isLab s)):=by
 refine gv (f:=136) ?_
 refine rnT ?_
 refine TW.build [2,4] _ (rcL s) rfl rfl rfl (Args.cons rfl ct (Args.cons rfl ct Args.nil)) (by kernel_rfl) ?_
 refine TW.cl rfl (text_c (s:=s)) ?_
 rintro y w1 ⟨b1,t,rfl,ht⟩
 refine rnT ?_
 refine rt1 rfl ⟨b1,?_⟩
 by_cases h:isLab s
 ·rw [dec_pos h]
  have:t≠⟨#[]⟩:=fun e=>ht.1 e h
  rw [beqL,decide_eq_false this]
  rfl
 ·rw [dec_neg h]
  have:t=⟨#[]⟩:=ht.2 h
  simp [this]
theorem below_c {m:Int}:Gives Tryz.prog 137 #[.int .i64 n,.int .i64 m] w fun u w'=>Below w.heap.size w w'∧u= .bool (decide (0≤n∧n<m)):=by
 refine gv (f:=137) ?_
 refine rnT ?_
 refine rt1 rfl ⟨Below.refl _ _,by simp⟩
theorem isRem_c:Gives Tryz.prog 139 #[.int .i64 n] w fun u w'=>Below w.heap.size w w'∧u= .bool (decide (remOK n)):=by
 refine gv (f:=139) ?_
 refine rnT ?_
 refine TW.cl rfl (below_c) ?_
 rintro y w1 ⟨b1,rfl⟩
 refine rnT ?_
 refine rt1 rfl ⟨b1,rfl⟩
theorem allI_c (h:SL intT F w v l):Gives Tryz.prog 138 #[v,.func (.func 139) #[] #[]] w fun u w'=>Below w.heap.size w w'∧u= .bool (decide (∀x∈l,remOK x)):=by
 obtain ⟨A,cap,rfl,_⟩:=h.form
 have hmax:=h.len.2.2
 refine gv (f:=138) ?_
 refine rnT ?_
 refine CW.lp [1,7,8] (fun i:Nat=> [(9,none,.int .i64 (i:Int))])
  (fun i W=>i≤l.length∧Below w.heap.size w W∧ ∀x∈l.take i,remOK x) (fun i=>l.length-i) 0 ⟨Nat.zero_le _,Below.refl _ _,by simp⟩ ?_
 rintro i W ⟨hi,hB,hall⟩
 refine rnT ?_
 refine CW.pk [1,7,8,9,10] rfl ?_
 refine CW.condP rfl (fun hlt=> ?_) (fun hge=> ?_)
 ·obtain ⟨x,hx,hxm⟩:=getx (l:=l) (k:=i) (by omega)
  have hW:=h.below hB
  obtain ⟨ad,rfl⟩:=hW.addr (by omega)
  refine rnT ?_
  refine TW.ld rfl (hW.getI hx) ?_
  refine rnT ?_
  refine TW.call0 rfl rfl en139 rfl (Args.cons rfl ct Args.nil) (isRem_c) ?_
  rintro y w2 ⟨b2,rfl⟩
  refine rnT ?_
  refine CW.cond rfl (fun hno=> ?_) (fun hyes=> ?_)
  ·refine rnT ?_
   refine rt1 rfl ⟨hB.step b2,?_⟩
   rw [decide_eq_false fun hq=> ?_]
   simp [hq x hxm] at hno
  ·refine rnT ?_
   refine KW.rd (i+1) ⟨by omega,hB.step b2,fun y hy=> ?_⟩
   rw [List.take_add_one,hx] at hy
   rcases List.mem_append.1 hy with hy|hy
   ·exact hall y hy
   ·simp at hy
    subst hy
    simpa using hyes
 ·refine rnT ?_
  refine rt1 rfl ⟨hB,?_⟩
  rw [List.take_of_length_le (by omega)] at hall
  rw [decide_eq_true hall]
theorem allS_c {l:List ByteArray} (h:SL strT F w v l):Gives Tryz.prog 220 #[v,.func (.func 136) #[] #[]] w fun u w'=>Below w.heap.size w w'∧u= .bool (dec (∀x∈l,isLab x)):=by
 obtain ⟨A,cap,rfl,_⟩:=h.form
 have hmax:=h.len.2.2
 refine gv (f:=220) ?_
 refine rnT ?_
 refine CW.pk [0,1,4,7,8,9] rfl ?_
 refine CW.lp [1,7,8] (fun i:Nat=> [(9,none,.int .i64 (i:Int))])
  (fun i W=>i≤l.length∧Below w.heap.size w W∧ ∀x∈l.take i,isLab x) (fun i=>l.length-i) 0 ⟨Nat.zero_le _,Below.refl _ _,by simp⟩ ?_
 rintro i W ⟨hi,hB,hall⟩
 refine rnT ?_
 refine CW.condP rfl (fun hlt=> ?_) (fun hge=> ?_)
 ·obtain ⟨x,hx,hxm⟩:=getx (l:=l) (k:=i) (by omega)
  have hW:=h.below hB
  obtain ⟨ad,rfl⟩:=hW.addr (by omega)
  refine rnT ?_
  refine TW.ld rfl (hW.getT hx) ?_
  refine rnT ?_
  refine TW.call0 rfl rfl en136 rfl (Args.cons rfl ct Args.nil) (hisLab_c) ?_
  rintro y w2 ⟨b2,rfl⟩
  refine rnT ?_
  refine CW.cond rfl (fun hno=> ?_) (fun hyes=> ?_)
  ·refine rnT ?_
   refine rt1 rfl ⟨hB.step b2,?_⟩
   rw [dec_neg fun hq=> ?_]
   simp [dec_pos (hq x hxm)] at hno
  ·refine rnT ?_
   refine KW.rd (i+1) ⟨by omega,hB.step b2,fun y hy=> ?_⟩
   rw [List.take_add_one,hx] at hy
   rcases List.mem_append.1 hy with hy|hy
   ·exact hall y hy
   ·simp at hy
    subst hy
    exact dec_iff.1 (by simpa using hyes)
 ·refine rnT ?_
  refine rt1 rfl ⟨hB,?_⟩
  rw [List.take_of_length_le (by omega)] at hall
  rw [dec_pos hall]
theorem areKeys_c (h:SL intT F w v l):Gives Tryz.prog 135 #[v] w fun u w'=>Below w.heap.size w w'∧u= .bool (dec (KeysOK l)):=by
 obtain ⟨A,cap,rfl,_⟩:=h.form
 refine gv (f:=135) ?_
 refine rnT ?_
 refine TW.callF (cap:= []) rfl rfl en138 rfl ct (Args.cons rfl id (Args.cons rfl ct Args.nil)) (fun _=>allI_c h) ?_
 rintro w1 b1
 refine rnT ?_
 refine rt1 rfl ⟨b1,?_⟩
 by_cases hk:KeysOK l
 ·rw [dec_pos hk]
  obtain ⟨h1,h2,h3⟩:=hk
  rw [decide_eq_true h3]
  simp
  omega
 ·rw [dec_neg hk]
  by_cases h3: ∀x∈l,remOK x
  ·have: ¬(1≤l.length∧l.length≤6):=fun q=>hk ⟨q.1,q.2,h3⟩
   simp
   omega
  ·rw [decide_eq_false h3]
   simp
def ContOK (l:List ByteArray):Prop:=1≤l.length∧l.length≤40∧ ∀x∈l,isLab x
theorem areCont_c {l:List ByteArray} (h:SL strT F w v l):Gives Tryz.prog 154 #[v] w fun u w'=>Below w.heap.size w w'∧u= .bool (dec (ContOK l)):=by
 obtain ⟨A,cap,rfl,_⟩:=h.form
 refine gv (f:=154) ?_
 refine rnT ?_
 refine TW.callF (cap:= []) rfl rfl en220 rfl ct (Args.cons rfl id (Args.cons rfl ct Args.nil)) (fun _=>allS_c h) ?_
 rintro w1 b1
 refine rnT ?_
 refine rt1 rfl ⟨b1,?_⟩
 by_cases hk:ContOK l
 ·rw [dec_pos hk]
  obtain ⟨h1,h2,h3⟩:=hk
  rw [dec_pos h3]
  simp
  omega
 ·rw [dec_neg hk]
  by_cases h3: ∀x∈l,isLab x
  ·have: ¬(1≤l.length∧l.length≤40):=fun q=>hk ⟨q.1,q.2,h3⟩
   simp
   omega
  ·rw [dec_neg h3]
   simp
def dcV (d:Dc):List Value:= [.string d.sl,.int .i64 d.fr,.int .i64 d.to,.int .i64 d.time,.int .i64 d.cnt,.int .i64 d.root,.int .i64 d.give,.int .i64 d.take]
def sgV (d:Dc) (kv:Value):List Value:=dcV d++ [kv]
def shV (p:Pp) (kv pv:Value):List Value:=sgV p.doc kv++ [.string p.label,.int .i64 p.idx,pv]
def ppV (p:Pp) (pv:Value):List Value:=dcV p.doc++ [.string p.label,.int .i64 p.idx,pv]
structure DcOK (d:Dc):Prop where
 f:I64 d.fr
 t:I64 d.to
 m:I64 d.time
 c:I64 d.cnt
 r:I64 d.root
 g:I64 d.give
 k:I64 d.take
theorem lit_i64 {g:Nat} {t:TypeId} {n:Nat} (l:List Int) (h:Blk w g t (l.map (Value.int .i64))) (hn:n=l.length) (hI: ∀x∈l,I64 x) (hs:l.length≤1000000):SI w (.slice (some ⟨g,0,none⟩) n n) l:=by
 subst hn
 exact OwnS.toInts (OwnS.of_blk h (by simp) (by omega)) hI (fun q hq=>by simp [Value.ownBlock] at hq; subst hq; exact h.lt) (by omega)
theorem first_c (h:SL intT F w kv ks) (hd:DcOK d) (hsz:d.sl.size≤1000000) (h0:0≤d.fr) (h1:d.fr<ks.length) :
  Gives Tryz.prog 141 #[.agg (sgV d kv).toArray] w fun u w'=>Below w.heap.size w w'∧SI w' u (firstS ks d):=by
 obtain ⟨A,cap,rfl,_⟩:=h.form
 obtain ⟨k,hk⟩: ∃k:Nat,d.fr=k:=⟨d.fr.toNat,by omega⟩
 obtain ⟨x,hx,hxm⟩:=getx (l:=ks) (k:=k) (by omega)
 obtain ⟨ad,rfl⟩:=h.addr (by omega)
 have hxI:=h.rngI hx
 refine gv (f:=141) ?_
 refine rnT ?_
 refine TW.box rfl rfl rfl rfl ?_
 rintro g1 w1 f1
 refine rnT ?_
 refine CW.draw mixed (by kernel_rfl) ?_
 refine rnD ?_
 have hB1:=f1.blk
 have h1':=h.below f1.below
 have hget:=h1'.getI hx
 rw [←hk] at hget
 refine DW.ld rfl (hB1.fld rfl) ?_
 refine rnD ?_
 refine DW.ld rfl (hB1.fld rfl) ?_
 refine rnD ?_
 refine DW.ld rfl hget ?_
 refine rnD ?_
 refine DW.ld rfl (hB1.fld rfl) ?_
 refine DW.cl (.ex (.int .i64 (labS d.sl))) trivial rfl (fun _ w' hb'=>label_c hsz) ?_
 refine rnD ?_
 refine DW.ld rfl (hB1.fld rfl) ?_
 refine rnD ?_
 refine DW.ld rfl (hB1.fld rfl) ?_
 refine rnD ?_
 refine DW.ld rfl (hB1.fld rfl) ?_
 refine rnD ?_
 refine DW.ld rfl (hB1.fld rfl) ?_
 refine rnD ?_
 refine DW.ld rfl (hB1.fld rfl) ?_
 refine DW.buildSlice 3 _ rfl rfl rfl eo32 (DArgs.cons rfl id (DArgs.cons rfl id (DArgs.cons rfl id (DArgs.cons rfl id (DArgs.cons rfl id (DArgs.cons rfl id (DArgs.cons rfl id DArgs.nil))))))) rfl rfl rfl rfl rfl ?_
 refine DW.assignP rfl rfl rfl ct (Lies.mono _ _ _) ?_
 refine DW.nil (DW.finX [0,1] [(0,_,_),(1,_,_)] rfl [2] rfl fun vs w3 b3 hs3=>KW.then_ ?_)
 obtain ⟨v2,rfl,h2⟩:=Sats.one hs3
 refine CW.ret ?_
 obtain ⟨g4,rfl,hB4⟩:=h2
 refine rt1 rfl ⟨f1.below.step b3,?_⟩
 have e:firstS ks d= [x,labS d.sl,d.fr,d.to,d.time,d.cnt,d.root]:=by
  unfold firstS
  rw [List.getD_eq_getElem?_getD,show d.fr.toNat=k by omega,hx]
  rfl
 have hl:=sumS_rng (bytesI d.sl)
 rw [e]
 refine lit_i64 _ hB4 rfl (fun y hy=> ?_) (by simp)
 simp only [List.mem_cons,List.not_mem_nil,or_false] at hy
 rcases hy with rfl|rfl|rfl|rfl|rfl|rfl|rfl
 ·exact hxI
 ·exact ⟨by unfold labS; omega,by unfold labS; omega⟩
 ·exact hd.f
 ·exact hd.t
 ·exact hd.m
 ·exact hd.c
 ·exact hd.r
theorem second_c (h:SL intT F w kv ks) (hd:DcOK d) (h0:0≤d.to) (h1:d.to<ks.length) :
  Gives Tryz.prog 142 #[.agg (sgV d kv).toArray] w fun u w'=>Below w.heap.size w w'∧SI w' u (secondS ks d):=by
 obtain ⟨A,cap,rfl,_⟩:=h.form
 obtain ⟨k,hk⟩: ∃k:Nat,d.to=k:=⟨d.to.toNat,by omega⟩
 obtain ⟨x,hx,hxm⟩:=getx (l:=ks) (k:=k) (by omega)
 obtain ⟨ad,rfl⟩:=h.addr (by omega)
 have hxI:=h.rngI hx
 refine gv (f:=142) ?_
 refine rnT ?_
 refine TW.box rfl rfl rfl rfl ?_
 rintro g1 w1 f1
 refine rnT ?_
 refine CW.pk [0,1,2] rfl ?_
 refine CW.draw mixed (by kernel_rfl) ?_
 refine rnD ?_
 have hB1:=f1.blk
 have h1':=h.below f1.below
 have hget:=h1'.getI hx
 rw [←hk] at hget
 refine DW.ld rfl (hB1.fld rfl) ?_
 refine rnD ?_
 refine DW.ld rfl (hB1.fld rfl) ?_
 refine rnD ?_
 refine DW.ld rfl hget ?_
 refine rnD ?_
 refine DW.ld rfl (hB1.fld rfl) ?_
 refine DW.buildSlice 3 _ rfl rfl rfl eo32 (DArgs.cons rfl id (DArgs.cons rfl id DArgs.nil)) rfl rfl rfl rfl rfl ?_
 refine DW.assignP rfl rfl rfl ct (Lies.mono _ _ _) ?_
 refine DW.nil (DW.finX [0,1] [(0,_,_),(1,_,_)] rfl [2] rfl fun vs w3 b3 hs3=>KW.then_ ?_)
 obtain ⟨v2,rfl,h2⟩:=Sats.one hs3
 refine CW.ret ?_
 obtain ⟨g4,rfl,hB4⟩:=h2
 refine rt1 rfl ⟨f1.below.step b3,?_⟩
 have e:secondS ks d= [x,d.give]:=by
  unfold secondS
  rw [List.getD_eq_getElem?_getD,show d.to.toNat=k by omega,hx]
  rfl
 rw [e]
 refine lit_i64 _ hB4 rfl (fun y hy=> ?_) (by simp)
 simp only [List.mem_cons,List.not_mem_nil,or_false] at hy
 rcases hy with rfl|rfl
 ·exact hxI
 ·exact hd.g
theorem forged_c (h:SL intT F w kv ks) (hd:DcOK d) (hk:DocOK ks d) :
  Gives Tryz.prog 69 #[.agg (sgV d kv).toArray] w fun u w'=>Below w.heap.size w w'∧u= .bool (!dec (SignOK ks d)):=by
 obtain ⟨A,cap,rfl,_⟩:=h.form
 refine gv (f:=69) ?_
 refine rnT ?_
 refine TW.box rfl rfl rfl rfl ?_
 rintro g1 w1 f1
 refine rnT ?_
 refine CW.pk [0,1,2] rfl ?_
 refine CW.draw mixed (by kernel_rfl) ?_
 refine rnD ?_
 have hB1:=f1.blk
 have h1:=h.below f1.below
 refine DW.ld rfl (hB1.fld rfl) ?_
 refine DW.ldS rfl (fun _ _ hv=>hB1.fld hv) ?_
 refine DW.cl (.pr (fun u W=>SI W u (firstS ks d))) ?_ rfl (fun _ w' hb'=>first_c (h1.below hb') hd (by have:=hk.lab.2.1; omega) hk.f0 hk.f1) ?_
 ·exact fun _ _ _ hb h=>h.step intT_now hb
 refine DW.callP (.ex (.int .i64 (sumS (firstS ks d)))) (trivial) rfl rfl en140 rfl ct (PArgs.cons rfl ct PArgs.nil) (fun _ w' hb' vs hs=> ?_) ?_
 ·obtain ⟨u,rfl,hu⟩:=Sats.one hs
  exact (dsum_c (show SI w' u (firstS ks d) from hu)).mono fun x w'' ⟨h1,h2⟩=>⟨h1 ▸ Below.refl _ _,h2⟩
 refine rnD ?_
 refine DW.ld rfl (hB1.fld rfl) ?_
 refine DW.ldS rfl (fun _ _ hv=>hB1.fld hv) ?_
 refine DW.call (.pr (fun u W=>SI W u (secondS ks d))) ?_ rfl rfl en142 rfl ct (DArgs.cons rfl id DArgs.nil) (fun _ w' hb'=>second_c (h1.below hb') hd hk.t0 hk.t1) ?_
 ·exact fun _ _ _ hb h=>h.step intT_now hb
 refine DW.callP (.ex (.int .i64 (sumS (secondS ks d)))) (trivial) rfl rfl en140 rfl ct (PArgs.cons rfl id PArgs.nil) (fun _ w' hb' vs hs=> ?_) ?_
 ·obtain ⟨u,rfl,hu⟩:=Sats.one hs
  exact (dsum_c (show SI w' u (secondS ks d) from hu)).mono fun x w'' ⟨h1,h2⟩=>⟨h1 ▸ Below.refl _ _,h2⟩
 refine rnD ?_
 refine DW.fi [0,1,2] rfl fun w3 b3=> ?_
 refine rnT ?_
 refine rt1 rfl ⟨f1.below.step b3,?_⟩
 by_cases hs:SignOK ks d
 ·rw [dec_pos hs]
  simp [hs.1,hs.2]
 ·rw [dec_neg hs]
  by_cases h1:d.give=sumS (firstS ks d)
  ·have h2: ¬d.take=sumS (secondS ks d):=fun h=>hs ⟨h1,h⟩
   simp [h2]
  ·simp [h1]
theorem doc_bool:dec (DocOK ks d)=(dec (KeysOK ks)&&dec (isLab d.sl)&&decide (0≤d.fr∧d.fr<ks.length)&&decide (0≤d.to∧d.to<ks.length)&&decide (0≤d.time∧d.time<1000001)&& !decide (d.cnt<1)&& !decide (d.cnt>40)&&decide (∀x∈ [d.root,d.give,d.take],remOK x)):=by
 by_cases h:DocOK ks d
 ·rw [dec_pos h,dec_pos h.keys,dec_pos h.lab,decide_eq_true ⟨h.f0,h.f1⟩,decide_eq_true ⟨h.t0,h.t1⟩,decide_eq_true (p:=0≤d.time∧d.time<1000001) ⟨h.m0,by have:=h.m1; omega⟩,decide_eq_false (by have:=h.c0; omega),decide_eq_false (by have:=h.c1; omega),decide_eq_true (p:= ∀x∈ [d.root,d.give,d.take],remOK x)]
  ·rfl
  ·intro x hx
   simp only [List.mem_cons,List.not_mem_nil,or_false] at hx
   rcases hx with rfl|rfl|rfl
   ·exact h.r
   ·exact h.g
   ·exact h.k
 ·rw [dec_neg h,eq_comm,Bool.eq_false_iff]
  intro hq
  simp only [Bool.and_eq_true,decide_eq_true_eq,Bool.not_eq_true',decide_eq_false_iff_not] at hq
  obtain ⟨⟨⟨⟨⟨⟨⟨q1,q2⟩,q3⟩,q4⟩,q5⟩,q6⟩,q7⟩,q8⟩:=hq
  exact h ⟨dec_iff.1 q1,dec_iff.1 q2,q3.1,q3.2,q4.1,q4.2,q5.1,by omega,by omega,by omega,q8 _ (by simp),q8 _ (by simp),q8 _ (by simp)⟩
theorem malformed_c (h:SL intT F w kv ks) (hd:DcOK d) :
  Gives Tryz.prog 68 #[.agg (sgV d kv).toArray] w fun u w'=>Below w.heap.size w w'∧u= .bool (!dec (DocOK ks d)):=by
 obtain ⟨A,cap,rfl,_⟩:=h.form
 refine gv (f:=68) ?_
 refine rnT ?_
 refine TW.box rfl rfl rfl rfl ?_
 rintro g1 w1 f1
 refine rnT ?_
 refine TW.ld rfl (f1.blk.fld rfl) ?_
 refine TW.cl rfl (areKeys_c (h.below f1.below)) ?_
 rintro y w2 ⟨b2,rfl⟩
 refine rnT ?_
 refine TW.ld rfl ((f1.blk.next b2).fld rfl) ?_
 refine TW.callF (cap:= []) rfl rfl en136 rfl ct (Args.cons rfl id Args.nil) (fun _=>hisLab_c) ?_
 rintro w3 b3
 refine rnT ?_
 have b13:=b2.step b3
 refine TW.ld rfl ((f1.blk.next b13).fld rfl) ?_
 refine rnT ?_
 refine TW.ld rfl ((f1.blk.next b13).fld rfl) ?_
 refine rnT ?_
 refine TW.callF (cap:= []) rfl rfl en137 rfl ct (Args.cons rfl id (Args.cons rfl id Args.nil)) (fun _=>below_c) ?_
 rintro w4 b4
 refine rnT ?_
 have b14:=b13.step b4
 refine TW.ld rfl ((f1.blk.next b14).fld rfl) ?_
 refine rnT ?_
 refine TW.ld rfl ((f1.blk.next b14).fld rfl) ?_
 refine rnT ?_
 refine TW.callF (cap:= []) rfl rfl en137 rfl ct (Args.cons rfl id (Args.cons rfl id Args.nil)) (fun _=>below_c) ?_
 rintro w5 b5
 refine rnT ?_
 have b15:=b14.step b5
 refine TW.ld rfl ((f1.blk.next b15).fld rfl) ?_
 refine TW.callF (cap:= []) rfl rfl en137 rfl ct (Args.cons rfl id (Args.cons rfl ct Args.nil)) (fun _=>below_c) ?_
 rintro w6 b6
 refine rnT ?_
 have b16:=b15.step b6
 have hB6:=f1.blk.next b16
 refine TW.ld rfl (hB6.fld rfl) ?_
 refine rnT ?_
 refine TW.ld rfl (hB6.fld rfl) ?_
 refine rnT ?_
 rw [doc_bool]
 by_cases hP:(dec (KeysOK ks)&&dec (isLab d.sl)&&decide (0≤d.fr∧d.fr<ks.length)&&decide (0≤d.to∧d.to<ks.length)&&decide (0≤d.time∧d.time<1000001)&& !decide (d.cnt<1)&& !decide (d.cnt>40))=true
 ·skip
  refine TW.known rfl (by simpa [Cnd] using hP) ?_
  refine TW.ld rfl (hB6.fld rfl) ?_
  refine TW.known rfl (by simpa [Cnd] using hP) ?_
  refine TW.v V.fieldAddr rfl ⟨ct,trivial⟩ (fun _=>trivial) ?_
  refine TW.known rfl (by simpa [Cnd] using hP) ?_
  refine rnT ?_
  refine TW.known rfl (by simpa [Cnd] using hP) ?_
  refine TW.ld rfl (hB6.fld rfl) ?_
  refine TW.known rfl (by simpa [Cnd] using hP) ?_
  refine TW.v V.fieldAddr rfl ⟨ct,trivial⟩ (fun _=>trivial) ?_
  refine TW.known rfl (by simpa [Cnd] using hP) ?_
  refine rnT ?_
  refine TW.known rfl (by simpa [Cnd] using hP) ?_
  refine TW.ld rfl (hB6.fld rfl) ?_
  refine TW.known rfl (by simpa [Cnd] using hP) ?_
  refine TW.buildSlice 3 _ rfl rfl rfl eo32 (Args.cons rfl ct (Args.cons rfl ct (Args.cons rfl ct Args.nil))) rfl rfl rfl rfl rfl ?_
  rintro g7 w7 f7
  refine TW.known rfl (by simpa [Cnd] using hP) ?_
  have hL:SI w7 (.slice (some ⟨g7,0,none⟩) 3 3) [d.root,d.give,d.take]:=lit_i64 _ f7.blk rfl (fun y hy=>by
   simp only [List.mem_cons,List.not_mem_nil,or_false] at hy
   rcases hy with rfl|rfl|rfl
   ·exact hd.r
   ·exact hd.g
   ·exact hd.k) (by simp)
  refine TW.cl rfl (allI_c hL) ?_
  rintro y w8 ⟨b8,rfl⟩
  refine TW.known rfl (by simpa [Cnd] using hP) ?_
  refine rnT ?_
  refine rt1 rfl ⟨f1.below.step ((b16.step f7.below).step b8),?_⟩
  rw [hP]
  simp at hP ⊢
  simp [hP]
  omega
 ·skip
  refine TW.dead (.bool false) rfl (fun hc=>hP (by simpa [Cnd] using hc)) rfl ?_
  refine TW.dead (.bool false) rfl (fun hc=>hP (by simpa [Cnd] using hc)) rfl ?_
  refine TW.dead (.bool false) rfl (fun hc=>hP (by simpa [Cnd] using hc)) rfl ?_
  refine TW.dead (.bool false) rfl (fun hc=>hP (by simpa [Cnd] using hc)) rfl ?_
  refine TW.dead (.bool false) rfl (fun hc=>hP (by simpa [Cnd] using hc)) rfl ?_
  refine TW.dead (.bool false) rfl (fun hc=>hP (by simpa [Cnd] using hc)) rfl ?_
  refine TW.dead (.bool false) rfl (fun hc=>hP (by simpa [Cnd] using hc)) rfl ?_
  refine TW.dead (.bool false) rfl (fun hc=>hP (by simpa [Cnd] using hc)) rfl ?_
  refine TW.dead (.bool false) rfl (fun hc=>hP (by simpa [Cnd] using hc)) rfl ?_
  refine TW.dead (.bool false) rfl (fun hc=>hP (by simpa [Cnd] using hc)) rfl ?_
  refine rnT ?_
  refine rt1 rfl ⟨f1.below.step b16,?_⟩
  rw [Bool.not_eq_true] at hP
  rw [hP]
  cases h1:dec (KeysOK ks)<;>cases h2:dec (isLab d.sl)<;>simp [h1,h2] at hP ⊢ <;>omega
end Go.Proofs.YtobaafdejnimkaaGreatDoor
