/- Texts of this claim,joined. -/
import Derived.Test.YtobaafdejnimkaaGreatDoorQI
import Derived.Test.YtobaafdejnimkaaGreatDoorRows
import Derived.Test.YtobaafdejnimkaaGreatDoorCards
import Derived.Test.YtobaafdejnimkaaGreatDoorTie
import Derived.LaidMore
import Derived.OpenShut
import Derived.Stop.Joined
import Derived.SevenTiedAt
import Derived.JoinedOf
set_option linter.unusedSimpArgs false
set_option linter.unusedVariables false
set_option maxRecDepth 100000
set_option maxHeartbeats 4000000
namespace Go.Proofs.YtobaafdejnimkaaGreatDoor
open Go.Proofs.Tryz
open Go.PF Go.RowKit Go.ChangeShapes Go.WideShapes Go.ChangeAt Go.Ord
theorem OB:ownKnob prog.godebug=none:=by kernel_rfl
theorem Np:laidOutB prog=true:=by kernel_rfl
theorem bB {n:Int} (h:(Lit.int .i64 n).wf=true):eB n:=by
 simp only [Lit.wf,Bool.and_eq_true,decide_eq_true_eq] at h;exact h
theorem DJ:Opens prog 3 bC:=by
 intro H enc w base spare held fuel cs x hx;obtain ⟨a1,h1,_,w1⟩:=DataW.trod_int underlying3 hx;exact ⟨a1,h1,bB w1⟩
theorem opens_ints:Opens prog 32 (sliceT bC):=Opens.slice underlying32 (by kernel_rfl) DJ
theorem Dy:Opens prog 9 strT:=by
 intro H enc w base spare held fuel cs x hx;obtain ⟨a1,h1,_,w1⟩:=DataW.trod_string underlying9 hx;exact ⟨a1,h1,w1⟩
theorem tJ:Opens prog 23 (sliceT strT):=Opens.slice underlying23 (by kernel_rfl) Dy
theorem opens_rows:Opens prog 30 (sliceT (sliceT bC)):=by
 refine Opens.slice underlying30 (by kernel_rfl) ?_;exact opens_ints
theorem Ar:Opens prog 4 boolT:=by
 intro H enc w base spare held fuel cs x hx;obtain ⟨a1,h1,_⟩:=DataW.trod_bool underlying4 hx;exact ⟨a1,h1⟩
theorem yw:Opens prog 134 (sliceT boolT):=Opens.slice underlying134 (by kernel_rfl) Ar
theorem Gt:Opens prog 60 evT:=by
 intro H enc w base spare held fuel cs x hx;obtain ⟨xs,n,_,_,hlen,hxl,hf⟩:=DataW.trod_struct underlying60 hx;have kk:prog.cellsOf 60=4:=by kernel_rfl
 have k0:prog.cellsOf 3=1:=by kernel_rfl
 have k1:prog.cellsOf 32=1:=by kernel_rfl
 match cs,hlen.trans kk with
 | [c0,c1,c2,c3],_ =>
  match xs,hxl with
  | [y0,y1,y2,y3],_ =>
   have e0:DataW.trod enc prog w base spare held n 3 [c0]=some y0:=by
    have h:DataW.trod enc prog w base spare held n 3 (([c0,c1,c2,c3].drop 0).take (prog.cellsOf 3))=some y0:=hf 0 _ rfl;rw [k0] at h;exact h
   have e1:DataW.trod enc prog w base spare held n 3 [c1]=some y1:=by
    have h:DataW.trod enc prog w base spare held n 3 (([c0,c1,c2,c3].drop 1).take (prog.cellsOf 3))=some y1:=hf 1 _ rfl;rw [k0] at h;exact h
   have e2:DataW.trod enc prog w base spare held n 3 [c2]=some y2:=by
    have h:DataW.trod enc prog w base spare held n 3 (([c0,c1,c2,c3].drop 2).take (prog.cellsOf 3))=some y2:=hf 2 _ rfl;rw [k0] at h;exact h
   have e3:DataW.trod enc prog w base spare held n 32 [c3]=some y3:=by
    have h:DataW.trod enc prog w base spare held n 32 (([c0,c1,c2,c3].drop 3).take (prog.cellsOf 32))=some y3:=hf 3 _ rfl;rw [k1] at h;exact h
   obtain ⟨a,h0,_,w0⟩:=DataW.trod_int underlying3 e0;obtain ⟨b,h1,_,w1⟩:=DataW.trod_int underlying3 e1;obtain ⟨c,h2,_,w2⟩:=DataW.trod_int underlying3 e2;obtain ⟨l,lv,h3,w3⟩:=opens_ints enc w base spare held n [c3] _ e3;simp at h0 h1 h2 h3;subst h0 h1 h2 h3;exact ⟨⟨a,b,c,l⟩,_,rfl,bB w0,bB w1,bB w2,w3⟩
theorem opens_evs:Opens prog 31 (sliceT evT):=Opens.slice underlying31 (by kernel_rfl) Gt
theorem DN:Opens prog 136 calT:=by
 intro H enc w base spare held fuel cs x hx;obtain ⟨xs,n,_,_,hlen,hxl,hf⟩:=DataW.trod_struct underlying136 hx;have kk:prog.cellsOf 136=3:=by kernel_rfl
 have k0:prog.cellsOf 3=1:=by kernel_rfl
 have k1:prog.cellsOf 134=1:=by kernel_rfl
 have k2:prog.cellsOf 32=1:=by kernel_rfl
 match cs,hlen.trans kk with
 | [c0,c1,c2],_ =>
  match xs,hxl with
  | [y0,y1,y2],_ =>
   have e0:DataW.trod enc prog w base spare held n 3 [c0]=some y0:=by
    have h:DataW.trod enc prog w base spare held n 3 (([c0,c1,c2].drop 0).take (prog.cellsOf 3))=some y0:=hf 0 _ rfl;rw [k0] at h;exact h
   have e1:DataW.trod enc prog w base spare held n 134 [c1]=some y1:=by
    have h:DataW.trod enc prog w base spare held n 134 (([c0,c1,c2].drop 1).take (prog.cellsOf 134))=some y1:=hf 1 _ rfl;rw [k1] at h;exact h
   have e2:DataW.trod enc prog w base spare held n 32 [c2]=some y2:=by
    have h:DataW.trod enc prog w base spare held n 32 (([c0,c1,c2].drop 2).take (prog.cellsOf 32))=some y2:=hf 2 _ rfl;rw [k2] at h;exact h
   obtain ⟨a,h0,_,w0⟩:=DataW.trod_int underlying3 e0;obtain ⟨b,bv,h1,w1⟩:=yw enc w base spare held n [c1] _ e1;obtain ⟨c,cv,h2,w2⟩:=opens_ints enc w base spare held n [c2] _ e2;simp at h0 h1 h2;subst h0 h1 h2;exact ⟨⟨a,b,c⟩,_,_,rfl,bB w0,w1,w2⟩
theorem Aq:Opens prog 22 (sliceT calT):=Opens.slice underlying22 (by kernel_rfl) DN
theorem Gq:Opens prog 138 strT:=by
 intro H enc w base spare held fuel cs x hx;obtain ⟨xs,n,_,_,hlen,hxl,hf⟩:=DataW.trod_struct underlying138 hx;have kk:prog.cellsOf 138=1:=by kernel_rfl
 have k0:prog.cellsOf 9=1:=by kernel_rfl
 match cs,hlen.trans kk with
 | [c0],_ =>
  match xs,hxl with
  | [y0],_ =>
   have e0:DataW.trod enc prog w base spare held n 9 [c0]=some y0:=by
    have h:DataW.trod enc prog w base spare held n 9 (([c0].drop 0).take (prog.cellsOf 9))=some y0:=hf 0 _ rfl;rw [k0] at h;exact h
   obtain ⟨a,h0,_,w0⟩:=DataW.trod_string underlying9 e0;simp at h0;subst h0;exact ⟨a,rfl,w0⟩
theorem DC:Opens prog 24 (sliceT strT):=Opens.slice underlying24 (by kernel_rfl) Gq
theorem Gr:Opens prog 110 ofT:=by
 intro H enc w base spare held fuel cs x hx;obtain ⟨xs,n,_,_,hlen,hxl,hf⟩:=DataW.trod_struct underlying110 hx;have kk:prog.cellsOf 110=7:=by kernel_rfl
 have k0:prog.cellsOf 9=1:=by kernel_rfl
 have k1:prog.cellsOf 3=1:=by kernel_rfl
 have k2:prog.cellsOf 23=1:=by kernel_rfl
 match cs,hlen.trans kk with
 | [c0,c1,c2,c3,c4,c5,c6],_ =>
  match xs,hxl with
  | [y0,y1,y2,y3,y4,y5,y6],_ =>
   have e0:DataW.trod enc prog w base spare held n 9 [c0]=some y0:=by
    have h:DataW.trod enc prog w base spare held n 9 (([c0,c1,c2,c3,c4,c5,c6].drop 0).take (prog.cellsOf 9))=some y0:=hf 0 _ rfl;rw [k0] at h;exact h
   have e1:DataW.trod enc prog w base spare held n 3 [c1]=some y1:=by
    have h:DataW.trod enc prog w base spare held n 3 (([c0,c1,c2,c3,c4,c5,c6].drop 1).take (prog.cellsOf 3))=some y1:=hf 1 _ rfl;rw [k1] at h;exact h
   have e2:DataW.trod enc prog w base spare held n 3 [c2]=some y2:=by
    have h:DataW.trod enc prog w base spare held n 3 (([c0,c1,c2,c3,c4,c5,c6].drop 2).take (prog.cellsOf 3))=some y2:=hf 2 _ rfl;rw [k1] at h;exact h
   have e3:DataW.trod enc prog w base spare held n 3 [c3]=some y3:=by
    have h:DataW.trod enc prog w base spare held n 3 (([c0,c1,c2,c3,c4,c5,c6].drop 3).take (prog.cellsOf 3))=some y3:=hf 3 _ rfl;rw [k1] at h;exact h
   have e4:DataW.trod enc prog w base spare held n 3 [c4]=some y4:=by
    have h:DataW.trod enc prog w base spare held n 3 (([c0,c1,c2,c3,c4,c5,c6].drop 4).take (prog.cellsOf 3))=some y4:=hf 4 _ rfl;rw [k1] at h;exact h
   have e5:DataW.trod enc prog w base spare held n 3 [c5]=some y5:=by
    have h:DataW.trod enc prog w base spare held n 3 (([c0,c1,c2,c3,c4,c5,c6].drop 5).take (prog.cellsOf 3))=some y5:=hf 5 _ rfl;rw [k1] at h;exact h
   have e6:DataW.trod enc prog w base spare held n 23 [c6]=some y6:=by
    have h:DataW.trod enc prog w base spare held n 23 (([c0,c1,c2,c3,c4,c5,c6].drop 6).take (prog.cellsOf 23))=some y6:=hf 6 _ rfl;rw [k2] at h;exact h
   obtain ⟨a,h0,_,w0⟩:=DataW.trod_string underlying9 e0;obtain ⟨b,h1,_,w1⟩:=DataW.trod_int underlying3 e1;obtain ⟨c,h2,_,w2⟩:=DataW.trod_int underlying3 e2;obtain ⟨d,h3,_,w3⟩:=DataW.trod_int underlying3 e3;obtain ⟨e,h4,_,w4⟩:=DataW.trod_int underlying3 e4;obtain ⟨f,h5,_,w5⟩:=DataW.trod_int underlying3 e5;obtain ⟨g,gv,h6,w6⟩:=tJ enc w base spare held n [c6] _ e6;simp at h0 h1 h2 h3 h4 h5 h6;subst h0 h1 h2 h3 h4 h5 h6;exact ⟨⟨a,b,c,d,e,f,g⟩,_,rfl,w0,bB w1,bB w2,bB w3,bB w4,bB w5,w6⟩
theorem DF:Opens prog 25 (sliceT ofT):=Opens.slice underlying25 (by kernel_rfl) Gr
theorem Gs:Opens prog 113 liT:=by
 intro H enc w base spare held fuel cs x hx;obtain ⟨xs,n,_,_,hlen,hxl,hf⟩:=DataW.trod_struct underlying113 hx;have kk:prog.cellsOf 113=6:=by kernel_rfl
 have k0:prog.cellsOf 9=1:=by kernel_rfl
 have k1:prog.cellsOf 3=1:=by kernel_rfl
 match cs,hlen.trans kk with
 | [c0,c1,c2,c3,c4,c5],_ =>
  match xs,hxl with
  | [y0,y1,y2,y3,y4,y5],_ =>
   have e0:DataW.trod enc prog w base spare held n 9 [c0]=some y0:=by
    have h:DataW.trod enc prog w base spare held n 9 (([c0,c1,c2,c3,c4,c5].drop 0).take (prog.cellsOf 9))=some y0:=hf 0 _ rfl;rw [k0] at h;exact h
   have e1:DataW.trod enc prog w base spare held n 3 [c1]=some y1:=by
    have h:DataW.trod enc prog w base spare held n 3 (([c0,c1,c2,c3,c4,c5].drop 1).take (prog.cellsOf 3))=some y1:=hf 1 _ rfl;rw [k1] at h;exact h
   have e2:DataW.trod enc prog w base spare held n 3 [c2]=some y2:=by
    have h:DataW.trod enc prog w base spare held n 3 (([c0,c1,c2,c3,c4,c5].drop 2).take (prog.cellsOf 3))=some y2:=hf 2 _ rfl;rw [k1] at h;exact h
   have e3:DataW.trod enc prog w base spare held n 3 [c3]=some y3:=by
    have h:DataW.trod enc prog w base spare held n 3 (([c0,c1,c2,c3,c4,c5].drop 3).take (prog.cellsOf 3))=some y3:=hf 3 _ rfl;rw [k1] at h;exact h
   have e4:DataW.trod enc prog w base spare held n 3 [c4]=some y4:=by
    have h:DataW.trod enc prog w base spare held n 3 (([c0,c1,c2,c3,c4,c5].drop 4).take (prog.cellsOf 3))=some y4:=hf 4 _ rfl;rw [k1] at h;exact h
   have e5:DataW.trod enc prog w base spare held n 3 [c5]=some y5:=by
    have h:DataW.trod enc prog w base spare held n 3 (([c0,c1,c2,c3,c4,c5].drop 5).take (prog.cellsOf 3))=some y5:=hf 5 _ rfl;rw [k1] at h;exact h
   obtain ⟨a,h0,_,w0⟩:=DataW.trod_string underlying9 e0;obtain ⟨b,h1,_,w1⟩:=DataW.trod_int underlying3 e1;obtain ⟨c,h2,_,w2⟩:=DataW.trod_int underlying3 e2;obtain ⟨d,h3,_,w3⟩:=DataW.trod_int underlying3 e3;obtain ⟨e,h4,_,w4⟩:=DataW.trod_int underlying3 e4;obtain ⟨f,h5,_,w5⟩:=DataW.trod_int underlying3 e5;simp at h0 h1 h2 h3 h4 h5;subst h0 h1 h2 h3 h4 h5;exact ⟨⟨a,b,c,d,e,f⟩,rfl,w0,bB w1,bB w2,bB w3,bB w4,bB w5⟩
theorem DI:Opens prog 26 (sliceT liT):=Opens.slice underlying26 (by kernel_rfl) Gs
theorem DL:Opens prog 199 claT:=by
 intro H enc w base spare held fuel cs x hx;obtain ⟨xs,n,_,_,hlen,hxl,hf⟩:=DataW.trod_struct underlying199 hx;have kk:prog.cellsOf 199=3:=by kernel_rfl
 have k0:prog.cellsOf 9=1:=by kernel_rfl
 have k1:prog.cellsOf 3=1:=by kernel_rfl
 match cs,hlen.trans kk with
 | [c0,c1,c2],_ =>
  match xs,hxl with
  | [y0,y1,y2],_ =>
   have e0:DataW.trod enc prog w base spare held n 9 [c0]=some y0:=by
    have h:DataW.trod enc prog w base spare held n 9 (([c0,c1,c2].drop 0).take (prog.cellsOf 9))=some y0:=hf 0 _ rfl;rw [k0] at h;exact h
   have e1:DataW.trod enc prog w base spare held n 3 [c1]=some y1:=by
    have h:DataW.trod enc prog w base spare held n 3 (([c0,c1,c2].drop 1).take (prog.cellsOf 3))=some y1:=hf 1 _ rfl;rw [k1] at h;exact h
   have e2:DataW.trod enc prog w base spare held n 3 [c2]=some y2:=by
    have h:DataW.trod enc prog w base spare held n 3 (([c0,c1,c2].drop 2).take (prog.cellsOf 3))=some y2:=hf 2 _ rfl;rw [k1] at h;exact h
   obtain ⟨a,h0,_,w0⟩:=DataW.trod_string underlying9 e0;obtain ⟨b,h1,_,w1⟩:=DataW.trod_int underlying3 e1;obtain ⟨c,h2,_,w2⟩:=DataW.trod_int underlying3 e2;simp at h0 h1 h2;subst h0 h1 h2;exact ⟨⟨a,b,c⟩,rfl,w0,bB w1,bB w2⟩
theorem Ap:Opens prog 27 (sliceT claT):=Opens.slice underlying27 (by kernel_rfl) DL
def OI:Ty Net where
 n:=6
 rep:=fun F w cs N=> ∃v:NV,cs=v.cells/\NetIn F w v N
 len:=fun _ _ _ _ h=>by obtain ⟨v,h,_⟩:=h; rw [h]; rfl
 mono:=fun _ _ _ _ _ hk h=>by obtain ⟨v,h,h1⟩:=h; exact ⟨v,h,h1.c.mono hk,h1.n.mono hk,h1.o.mono hk,h1.f.mono hk,h1.l.mono hk,h1.k.mono hk⟩
 wider:=fun _ _ _ _ _ hF h=>by obtain ⟨v,h,h1⟩:=h; exact ⟨v,h,h1.wider hF⟩
theorem opens_net:Opens prog 29 OI:=by
 intro H enc w base spare held fuel cs x hx;obtain ⟨xs,n,_,_,hlen,hxl,hf⟩:=DataW.trod_struct underlying29 hx;have kk:prog.cellsOf 29=6:=by kernel_rfl
 have k0:prog.cellsOf 22=1:=by kernel_rfl
 have k1:prog.cellsOf 23=1:=by kernel_rfl
 have k2:prog.cellsOf 24=1:=by kernel_rfl
 have k3:prog.cellsOf 25=1:=by kernel_rfl
 have k4:prog.cellsOf 26=1:=by kernel_rfl
 have k5:prog.cellsOf 27=1:=by kernel_rfl
 match cs,hlen.trans kk with
 | [c0,c1,c2,c3,c4,c5],_ =>
  match xs,hxl with
  | [y0,y1,y2,y3,y4,y5],_ =>
   have e0:DataW.trod enc prog w base spare held n 22 [c0]=some y0:=by
    have h:DataW.trod enc prog w base spare held n 22 (([c0,c1,c2,c3,c4,c5].drop 0).take (prog.cellsOf 22))=some y0:=hf 0 _ rfl;rw [k0] at h;exact h
   have e1:DataW.trod enc prog w base spare held n 23 [c1]=some y1:=by
    have h:DataW.trod enc prog w base spare held n 23 (([c0,c1,c2,c3,c4,c5].drop 1).take (prog.cellsOf 23))=some y1:=hf 1 _ rfl;rw [k1] at h;exact h
   have e2:DataW.trod enc prog w base spare held n 24 [c2]=some y2:=by
    have h:DataW.trod enc prog w base spare held n 24 (([c0,c1,c2,c3,c4,c5].drop 2).take (prog.cellsOf 24))=some y2:=hf 2 _ rfl;rw [k2] at h;exact h
   have e3:DataW.trod enc prog w base spare held n 25 [c3]=some y3:=by
    have h:DataW.trod enc prog w base spare held n 25 (([c0,c1,c2,c3,c4,c5].drop 3).take (prog.cellsOf 25))=some y3:=hf 3 _ rfl;rw [k3] at h;exact h
   have e4:DataW.trod enc prog w base spare held n 26 [c4]=some y4:=by
    have h:DataW.trod enc prog w base spare held n 26 (([c0,c1,c2,c3,c4,c5].drop 4).take (prog.cellsOf 26))=some y4:=hf 4 _ rfl;rw [k4] at h;exact h
   have e5:DataW.trod enc prog w base spare held n 27 [c5]=some y5:=by
    have h:DataW.trod enc prog w base spare held n 27 (([c0,c1,c2,c3,c4,c5].drop 5).take (prog.cellsOf 27))=some y5:=hf 5 _ rfl;rw [k5] at h;exact h
   obtain ⟨a,av,h0,w0⟩:=Aq enc w base spare held n [c0] _ e0;obtain ⟨b,bv,h1,w1⟩:=tJ enc w base spare held n [c1] _ e1;obtain ⟨c,cv,h2,w2⟩:=DC enc w base spare held n [c2] _ e2;obtain ⟨d,dv,h3,w3⟩:=DF enc w base spare held n [c3] _ e3;obtain ⟨e,ev,h4,w4⟩:=DI enc w base spare held n [c4] _ e4;obtain ⟨f,fv,h5,w5⟩:=Ap enc w base spare held n [c5] _ e5;simp at h0 h1 h2 h3 h4 h5;subst h0 h1 h2 h3 h4 h5;exact ⟨⟨a,b,c,d,e,f⟩,⟨_,_,_,_,_,_⟩,rfl,⟨w0,w1,w2,w3,w4,w5⟩⟩
theorem uQ {H:Type} {enc:TypeId×Value->H} {P:Program} {w:World} {base:Nat} {sp:Nat->Bool} {held:Bool} {fuel:Nat} {t e:TypeId} {n:Nat} {cs:List Value} {ss:List ByteArray} {p:List MemPlace} (ht:P.underlying t=some (.array n e)) (he:P.underlying e=some .string) (hce:P.cellsOf e=1) (hct:P.cellsOf t=n)
  (h:DataW.trod enc P w base sp held fuel t cs=some (.agg (ss.map fun s=> .lit (.string s.data.toList)),p)):cs=ss.map Value.string:=by
 obtain ⟨xs,m,rfl,hx,hl,hxl,hall⟩:=DataW.trod_array ht h;have hxs:xs.map (·.1)=ss.map fun s=>(DataW.lit (.string s.data.toList):DataW H):=by
  have:=congrArg Prod.fst hx;simpa using this.symm
 have hsl:ss.length=n:=by
  have:=congrArg List.length hxs;simp at this;omega
 apply List.ext_getElem?;intro i;by_cases hi:i<n
 ·have h1:=hall i hi;obtain ⟨b,hb⟩: ∃b,xs[i]?=some b:=⟨xs[i]'(by omega),ZD (by omega)⟩;rw [hb,hce] at h1;obtain ⟨s,hcs,rfl,_⟩:=DataW.trod_string he h1;have h2:cs[i]?=some (.string s):=by
   have:=congrArg (·[0]?) hcs;simpa [List.getElem?_take,List.getElem?_drop] using this
  have h3:(xs.map (·.1))[i]?=some (DataW.lit (.string s.data.toList):DataW H):=by simp [hb]
  rw [hxs] at h3;simp only [List.getElem?_map,Option.map_eq_some_iff,DataW.lit.injEq,Lit.string.injEq] at h3;obtain ⟨z,hz,hzs⟩:=h3;have:z=s:=ByteArray.ext (Array.toList_inj.1 hzs);subst this;simp [h2,hz]
 ·rw [List.getElem?_eq_none (by omega),List.getElem?_eq_none (by simp; omega)]
def Nj:Ty Cl where
 n:=5
 rep:=fun _ _ cs c=>cs= [.string c.label,.int .i64 c.fr,.int .i64 c.to,.int .i64 c.cls,.int .i64 c.acc]/\eB c.fr/\eB c.to/\eB c.cls/\eB c.acc
 len:=fun _ _ _ _ h=>by rw [h.1]; rfl
 mono:=fun _ _ _ _ _ _ h=>h
 wider:=fun _ _ _ _ _ _ h=>h
def ND:Ty Cl where
 n:=7
 rep:=fun _ _ cs c=>cs=Ih c/\ClI c
 len:=fun _ _ _ _ h=>by rw [h.1]; rfl
 mono:=fun _ _ _ _ _ _ h=>h
 wider:=fun _ _ _ _ _ _ h=>h
def OU:Ty Dc where
 n:=8
 rep:=fun _ _ cs d=>cs=Ej d/\DcOK d
 len:=fun _ _ _ _ h=>by rw [h.1]; rfl
 mono:=fun _ _ _ _ _ _ h=>h
 wider:=fun _ _ _ _ _ _ h=>h
def Ox:Ty (Int×List Int) where
 n:=2
 rep:=fun F w cs p=> ∃v,cs= [.int .i64 p.1,v]/\eB p.1/\SL bC F w v p.2
 len:=fun _ _ _ _ h=>by obtain ⟨v,h,_⟩:=h; rw [h]; rfl
 mono:=fun _ _ _ _ _ hk h=>by obtain ⟨v,h,h1,hs⟩:=h; exact ⟨v,h,h1,hs.mono hk⟩
 wider:=fun _ _ _ _ _ hF h=>by obtain ⟨v,h,h1,hs⟩:=h; exact ⟨v,h,h1,hs.wider hF⟩
theorem Ao:Opens prog 35 Nj:=by
 intro H enc w base spare held fuel cs x hx;obtain ⟨xs,n,_,_,hlen,hxl,hf⟩:=DataW.trod_struct underlying35 hx;have kk:prog.cellsOf 35=5:=by kernel_rfl
 have k0:prog.cellsOf 9=1:=by kernel_rfl
 have k1:prog.cellsOf 3=1:=by kernel_rfl
 match cs,hlen.trans kk with
 | [c0,c1,c2,c3,c4],_ =>
  match xs,hxl with
  | [y0,y1,y2,y3,y4],_ =>
   have e0:DataW.trod enc prog w base spare held n 9 [c0]=some y0:=by
    have h:DataW.trod enc prog w base spare held n 9 (([c0,c1,c2,c3,c4].drop 0).take (prog.cellsOf 9))=some y0:=hf 0 _ rfl;rw [k0] at h;exact h
   have e1:DataW.trod enc prog w base spare held n 3 [c1]=some y1:=by
    have h:DataW.trod enc prog w base spare held n 3 (([c0,c1,c2,c3,c4].drop 1).take (prog.cellsOf 3))=some y1:=hf 1 _ rfl;rw [k1] at h;exact h
   have e2:DataW.trod enc prog w base spare held n 3 [c2]=some y2:=by
    have h:DataW.trod enc prog w base spare held n 3 (([c0,c1,c2,c3,c4].drop 2).take (prog.cellsOf 3))=some y2:=hf 2 _ rfl;rw [k1] at h;exact h
   have e3:DataW.trod enc prog w base spare held n 3 [c3]=some y3:=by
    have h:DataW.trod enc prog w base spare held n 3 (([c0,c1,c2,c3,c4].drop 3).take (prog.cellsOf 3))=some y3:=hf 3 _ rfl;rw [k1] at h;exact h
   have e4:DataW.trod enc prog w base spare held n 3 [c4]=some y4:=by
    have h:DataW.trod enc prog w base spare held n 3 (([c0,c1,c2,c3,c4].drop 4).take (prog.cellsOf 3))=some y4:=hf 4 _ rfl;rw [k1] at h;exact h
   obtain ⟨a,h0,_,w0⟩:=DataW.trod_string underlying9 e0;obtain ⟨b,h1,_,w1⟩:=DataW.trod_int underlying3 e1;obtain ⟨c,h2,_,w2⟩:=DataW.trod_int underlying3 e2;obtain ⟨d,h3,_,w3⟩:=DataW.trod_int underlying3 e3;obtain ⟨e,h4,_,w4⟩:=DataW.trod_int underlying3 e4;simp at h0;subst h0;simp at h1;subst h1;simp at h2;subst h2;simp at h3;subst h3;simp at h4;subst h4;exact ⟨⟨a,b,c,d,e,0,0⟩,rfl,bB w1,bB w2,bB w3,bB w4⟩
theorem opens_claim:Opens prog 37 ND:=by
 intro H enc w base spare held fuel cs x hx;obtain ⟨xs,n,_,_,hlen,hxl,hf⟩:=DataW.trod_struct underlying37 hx;have kk:prog.cellsOf 37=7:=by kernel_rfl
 have k0:prog.cellsOf 35=5:=by kernel_rfl
 have k1:prog.cellsOf 3=1:=by kernel_rfl
 match cs,hlen.trans kk with
 | [c0,c1,c2,c3,c4,c5,c6],_ =>
  match xs,hxl with
  | [y0,y1,y2],_ =>
   have e0:DataW.trod enc prog w base spare held n 35 [c0,c1,c2,c3,c4]=some y0:=by
    have h:DataW.trod enc prog w base spare held n 35 (([c0,c1,c2,c3,c4,c5,c6].drop 0).take (prog.cellsOf 35))=some y0:=hf 0 _ rfl;rw [k0] at h;exact h
   have e1:DataW.trod enc prog w base spare held n 3 [c5]=some y1:=by
    have h:DataW.trod enc prog w base spare held n 3 (([c0,c1,c2,c3,c4,c5,c6].drop 5).take (prog.cellsOf 3))=some y1:=hf 1 _ rfl;rw [k1] at h;exact h
   have e2:DataW.trod enc prog w base spare held n 3 [c6]=some y2:=by
    have h:DataW.trod enc prog w base spare held n 3 (([c0,c1,c2,c3,c4,c5,c6].drop 6).take (prog.cellsOf 3))=some y2:=hf 2 _ rfl;rw [k1] at h;exact h
   obtain ⟨p,w0⟩:=Ao enc w base spare held n [c0,c1,c2,c3,c4] _ e0;obtain ⟨h0,q1,q2,q3,q4⟩:=w0;obtain ⟨due,h1,_,w1⟩:=DataW.trod_int underlying3 e1;obtain ⟨amt,h2,_,w2⟩:=DataW.trod_int underlying3 e2;cases h0;simp at h1;subst h1;simp at h2;subst h2;exact ⟨⟨p.label,p.fr,p.to,p.cls,p.acc,due,amt⟩,rfl,⟨q1,q2,q3,q4,bB w1,bB w2⟩⟩
theorem DK:Opens prog 63 OU:=by
 intro H enc w base spare held fuel cs x hx;obtain ⟨xs,n,_,_,hlen,hxl,hf⟩:=DataW.trod_struct underlying63 hx;have kk:prog.cellsOf 63=8:=by kernel_rfl
 have k0:prog.cellsOf 9=1:=by kernel_rfl
 have k1:prog.cellsOf 3=1:=by kernel_rfl
 match cs,hlen.trans kk with
 | [c0,c1,c2,c3,c4,c5,c6,c7],_ =>
  match xs,hxl with
  | [y0,y1,y2,y3,y4,y5,y6,y7],_ =>
   have e0:DataW.trod enc prog w base spare held n 9 [c0]=some y0:=by
    have h:DataW.trod enc prog w base spare held n 9 (([c0,c1,c2,c3,c4,c5,c6,c7].drop 0).take (prog.cellsOf 9))=some y0:=hf 0 _ rfl;rw [k0] at h;exact h
   have e1:DataW.trod enc prog w base spare held n 3 [c1]=some y1:=by
    have h:DataW.trod enc prog w base spare held n 3 (([c0,c1,c2,c3,c4,c5,c6,c7].drop 1).take (prog.cellsOf 3))=some y1:=hf 1 _ rfl;rw [k1] at h;exact h
   have e2:DataW.trod enc prog w base spare held n 3 [c2]=some y2:=by
    have h:DataW.trod enc prog w base spare held n 3 (([c0,c1,c2,c3,c4,c5,c6,c7].drop 2).take (prog.cellsOf 3))=some y2:=hf 2 _ rfl;rw [k1] at h;exact h
   have e3:DataW.trod enc prog w base spare held n 3 [c3]=some y3:=by
    have h:DataW.trod enc prog w base spare held n 3 (([c0,c1,c2,c3,c4,c5,c6,c7].drop 3).take (prog.cellsOf 3))=some y3:=hf 3 _ rfl;rw [k1] at h;exact h
   have e4:DataW.trod enc prog w base spare held n 3 [c4]=some y4:=by
    have h:DataW.trod enc prog w base spare held n 3 (([c0,c1,c2,c3,c4,c5,c6,c7].drop 4).take (prog.cellsOf 3))=some y4:=hf 4 _ rfl;rw [k1] at h;exact h
   have e5:DataW.trod enc prog w base spare held n 3 [c5]=some y5:=by
    have h:DataW.trod enc prog w base spare held n 3 (([c0,c1,c2,c3,c4,c5,c6,c7].drop 5).take (prog.cellsOf 3))=some y5:=hf 5 _ rfl;rw [k1] at h;exact h
   have e6:DataW.trod enc prog w base spare held n 3 [c6]=some y6:=by
    have h:DataW.trod enc prog w base spare held n 3 (([c0,c1,c2,c3,c4,c5,c6,c7].drop 6).take (prog.cellsOf 3))=some y6:=hf 6 _ rfl;rw [k1] at h;exact h
   have e7:DataW.trod enc prog w base spare held n 3 [c7]=some y7:=by
    have h:DataW.trod enc prog w base spare held n 3 (([c0,c1,c2,c3,c4,c5,c6,c7].drop 7).take (prog.cellsOf 3))=some y7:=hf 7 _ rfl;rw [k1] at h;exact h
   obtain ⟨a,h0,_,w0⟩:=DataW.trod_string underlying9 e0;obtain ⟨b,h1,_,w1⟩:=DataW.trod_int underlying3 e1;obtain ⟨c,h2,_,w2⟩:=DataW.trod_int underlying3 e2;obtain ⟨d,h3,_,w3⟩:=DataW.trod_int underlying3 e3;obtain ⟨e,h4,_,w4⟩:=DataW.trod_int underlying3 e4;obtain ⟨f,h5,_,w5⟩:=DataW.trod_int underlying3 e5;obtain ⟨g,h6,_,w6⟩:=DataW.trod_int underlying3 e6;obtain ⟨k,h7,_,w7⟩:=DataW.trod_int underlying3 e7;simp at h0;subst h0;simp at h1;subst h1;simp at h2;subst h2;simp at h3;subst h3;simp at h4;subst h4;simp at h5;subst h5;simp at h6;subst h6;simp at h7;subst h7;exact ⟨⟨a,b,c,d,e,f,g,k⟩,rfl,bB w1,bB w2,bB w3,bB w4,bB w5,bB w6,bB w7⟩
theorem Dz:Opens prog 65 Ox:=by
 intro H enc w base spare held fuel cs x hx;obtain ⟨xs,n,_,_,hlen,hxl,hf⟩:=DataW.trod_struct underlying65 hx;have kk:prog.cellsOf 65=2:=by kernel_rfl
 have k0:prog.cellsOf 3=1:=by kernel_rfl
 have k1:prog.cellsOf 32=1:=by kernel_rfl
 match cs,hlen.trans kk with
 | [c0,c1],_ =>
  match xs,hxl with
  | [y0,y1],_ =>
   have e0:DataW.trod enc prog w base spare held n 3 [c0]=some y0:=by
    have h:DataW.trod enc prog w base spare held n 3 (([c0,c1].drop 0).take (prog.cellsOf 3))=some y0:=hf 0 _ rfl;rw [k0] at h;exact h
   have e1:DataW.trod enc prog w base spare held n 32 [c1]=some y1:=by
    have h:DataW.trod enc prog w base spare held n 32 (([c0,c1].drop 1).take (prog.cellsOf 32))=some y1:=hf 1 _ rfl;rw [k1] at h;exact h
   obtain ⟨a,h0,_,w0⟩:=DataW.trod_int underlying3 e0;obtain ⟨l,lv,h1,w1⟩:=opens_ints enc w base spare held n [c1] _ e1;simp at h0;subst h0;simp at h1;subst h1;exact ⟨⟨a,l⟩,_,rfl,bB w0,w1⟩
theorem yu:Opens prog 67 MJ:=by
 intro H enc w base spare held fuel cs x hx;obtain ⟨xs,n,_,_,hlen,hxl,hf⟩:=DataW.trod_struct underlying67 hx;have kk:prog.cellsOf 67=11:=by kernel_rfl
 have k0:prog.cellsOf 63=8:=by kernel_rfl
 have k1:prog.cellsOf 9=1:=by kernel_rfl
 have k2:prog.cellsOf 65=2:=by kernel_rfl
 match cs,hlen.trans kk with
 | [c0,c1,c2,c3,c4,c5,c6,c7,c8,c9,c10],_ =>
  match xs,hxl with
  | [y0,y1,y2],_ =>
   have e0:DataW.trod enc prog w base spare held n 63 [c0,c1,c2,c3,c4,c5,c6,c7]=some y0:=by
    have h:DataW.trod enc prog w base spare held n 63 (([c0,c1,c2,c3,c4,c5,c6,c7,c8,c9,c10].drop 0).take (prog.cellsOf 63))=some y0:=hf 0 _ rfl;rw [k0] at h;exact h
   have e1:DataW.trod enc prog w base spare held n 9 [c8]=some y1:=by
    have h:DataW.trod enc prog w base spare held n 9 (([c0,c1,c2,c3,c4,c5,c6,c7,c8,c9,c10].drop 8).take (prog.cellsOf 9))=some y1:=hf 1 _ rfl;rw [k1] at h;exact h
   have e2:DataW.trod enc prog w base spare held n 65 [c9,c10]=some y2:=by
    have h:DataW.trod enc prog w base spare held n 65 (([c0,c1,c2,c3,c4,c5,c6,c7,c8,c9,c10].drop 9).take (prog.cellsOf 65))=some y2:=hf 2 _ rfl;rw [k2] at h;exact h
   obtain ⟨d,w0⟩:=DK enc w base spare held n [c0,c1,c2,c3,c4,c5,c6,c7] _ e0;obtain ⟨h0,q0⟩:=w0;obtain ⟨s,h1,_,w1⟩:=DataW.trod_string underlying9 e1;obtain ⟨p,w2⟩:=Dz enc w base spare held n [c9,c10] _ e2;obtain ⟨pv,h2,q2,q3⟩:=w2;cases h0;simp at h1;subst h1;cases h2;exact ⟨⟨d,s,p.1,p.2⟩,_,rfl,q0,q2,q3⟩
theorem opens_papers:Opens prog 33 (sliceT MJ):=Opens.slice underlying33 (by kernel_rfl) yu
abbrev laidAll:List (String×DataW Unit):= [("math/bits.deBruijn32tab",Rows.laid_math_bits_deBruijn32tab),("math/bits.deBruijn64tab",Rows.laid_math_bits_deBruijn64tab),("internal/strconv.uint64pow10",Rows.laid_internal_strconv_uint64pow10),("postilion/survey.keyWords",Rows.laid_postilion_survey_keyWords)]
theorem gKey:prog.globalNamed "postilion/survey.keyWords" = some 0:=by kernel_rfl
theorem tKey:(prog.globals[0]?).map (·.type)=some 282:=by kernel_rfl
theorem JJ:(Rows.laid_postilion_survey_keyWords:DataW Unit)= .agg (keys11.map fun s=> .lit (.string s.data.toList)):=by rfl
theorem wC {W:World} (h:laidMetH prog laidAll W):Tabs W:=by
 rw [MakeChecks.laidMetH_plain _ _ _ (by kernel_rfl)] at h;obtain ⟨ps,⟨g0,t0,cs0,f0,p0,q0,hg0,ht0,hv0,hd0,⟨g1,t1,cs1,f1,p1,q1,hg1,ht1,hv1,hd1,⟨g2,t2,cs2,f2,p2,q2,hg2,ht2,hv2,hd2,⟨g3,t3,cs3,f3,p3,q3,hg3,ht3,hv3,hd3,_,_⟩,_⟩,_⟩,_⟩,_,_⟩:=h;obtain rfl:=Option.some.inj (gKey.symm.trans hg3);obtain rfl:=Option.some.inj (tKey.symm.trans ht3);rw [JJ] at hd3;have c0:=uQ underlying282 underlying9 (by kernel_rfl) (by kernel_rfl) hd3;refine ⟨fun i s hs=> ?_⟩;have hv:W.var? prog "postilion/survey.keyWords" = some (keys11.map Value.string).toArray:=by rw [hv3,<-c0]
 have hi:i<keys11.length:=(ZE hs).1;have:=World.var?_cell gKey hv i;rw [this];simp [hs]
end Go.Proofs.YtobaafdejnimkaaGreatDoor
namespace Go.PF
open Go.RowKit Go.ChangeShapes Go.WideShapes Go.ChangeAt
section
variable {H:Type} {enc:TypeId×Value->H} {P:Program} {w:World} {base:Nat} {spare:Nat->Bool} {held:Bool}
theorem xE {t0 t1 t2 t3 t4 t5 t6 t7 t8 t9:TypeId} {args:Array Value} {ds:List (DataW H)} {ps:List MemPlace} (h:DataW.TrodAll enc P w base spare held [t0,t1,t2,t3,t4,t5,t6,t7,t8,t9] args.toList ds ps) :
  ∃ v0 v1 v2 v3 v4 v5 v6 v7 v8 v9 d0 d1 d2 d3 d4 d5 d6 d7 d8 d9 p0 p1 p2 p3 p4 p5 p6 p7 p8 p9,args= #[v0,v1,v2,v3,v4,v5,v6,v7,v8,v9]/\ds= [d0,d1,d2,d3,d4,d5,d6,d7,d8,d9]/\ps=p0++p1++p2++p3++p4++p5++p6++p7++p8++p9/\DataW.Trod enc P w base spare held t0 v0 d0 p0/\DataW.Trod enc P w base spare held t1 v1 d1 p1/\DataW.Trod enc P w base spare held t2 v2 d2 p2/\DataW.Trod enc P w base spare held t3 v3 d3 p3/\DataW.Trod enc P w base spare held t4 v4 d4 p4/\DataW.Trod enc P w base spare held t5 v5 d5 p5/\DataW.Trod enc P w base spare held t6 v6 d6 p6/\DataW.Trod enc P w base spare held t7 v7 d7 p7/\DataW.Trod enc P w base spare held t8 v8 d8 p8/\DataW.Trod enc P w base spare held t9 v9 d9 p9:=by
 obtain ⟨v0,vs0,d0,ds0,p0,q0,hargs,rfl,rfl,hd0,h0⟩:=trodAll_cons h;obtain ⟨v1,vs1,d1,ds1,p1,q1,rfl,rfl,rfl,hd1,h1⟩:=trodAll_cons h0;obtain ⟨v2,vs2,d2,ds2,p2,q2,rfl,rfl,rfl,hd2,h2⟩:=trodAll_cons h1;obtain ⟨v3,vs3,d3,ds3,p3,q3,rfl,rfl,rfl,hd3,h3⟩:=trodAll_cons h2;obtain ⟨v4,vs4,d4,ds4,p4,q4,rfl,rfl,rfl,hd4,h4⟩:=trodAll_cons h3;obtain ⟨v5,vs5,d5,ds5,p5,q5,rfl,rfl,rfl,hd5,h5⟩:=trodAll_cons h4;obtain ⟨v6,vs6,d6,ds6,p6,q6,rfl,rfl,rfl,hd6,h6⟩:=trodAll_cons h5;obtain ⟨v7,vs7,d7,ds7,p7,q7,rfl,rfl,rfl,hd7,h7⟩:=trodAll_cons h6;obtain ⟨v8,vs8,d8,ds8,p8,q8,rfl,rfl,rfl,hd8,h8⟩:=trodAll_cons h7;obtain ⟨v9,vs9,d9,ds9,p9,q9,rfl,rfl,rfl,hd9,h9⟩:=trodAll_cons h8;obtain ⟨rfl,rfl,rfl⟩:=trodAll_nil h9;exact ⟨v0,v1,v2,v3,v4,v5,v6,v7,v8,v9,d0,d1,d2,d3,d4,d5,d6,d7,d8,d9,p0,p1,p2,p3,p4,p5,p6,p7,p8,p9,by cases args; simp_all,rfl,by simp,hd0,hd1,hd2,hd3,hd4,hd5,hd6,hd7,hd8,hd9⟩
end
end Go.PF
namespace Go.Proofs.YtobaafdejnimkaaGreatDoor
open Go.Proofs.Tryz
theorem Nq:laidOutB Tryz.checked.prog=true:=by kernel_rfl
theorem Lu:mapsRowed Tryz.checked.prog=true:=by kernel_rfl
theorem LD:Tryz.checked.prog.plainKeys=Rows.verdictDueRow.plainKeys:=by kernel_rfl
theorem JK:Tryz.checked.prog.stopsHeard=true:=by kernel_rfl
theorem JL:Tryz.checked.prog.mayEnter=true:=by kernel_rfl
theorem LC:Tryz.checked.prog.liftsFinal=Rows.verdictDueRow.lifted:=by kernel_rfl
theorem Lv:Tryz.checked.prog.make=some Rows.verdictDueRow.make:=by kernel_rfl
theorem LB:false=Tryz.checked.prog.looks []:=by kernel_rfl
theorem Lx:Tryz.checked.prog.mainIs=some (true, "43fdc426b1b74d508c41e18fede44755061ec8034fbf0cbe4b16b3b10dac5e22".toList):=by kernel_rfl
end Go.Proofs.YtobaafdejnimkaaGreatDoor
