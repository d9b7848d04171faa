/- Texts of this claim,joined. -/
import Derived.Test.YtoleahhfkpkcjaaGreatDoorQR
import Derived.Test.YtoleahhfkpkcjaaGreatDoorRows
import Derived.Test.YtoleahhfkpkcjaaGreatDoorCards
import Derived.Test.YtoleahhfkpkcjaaGreatDoorTie
import Derived.LaidMore
import Derived.OpenShut
import Derived.Stop.Joined
import Derived.SevenTiedAt
import Derived.JoinedOf
set_option linter.unusedSimpArgs false
set_option linter.unusedVariables false
set_option maxRecDepth 100000
set_option maxHeartbeats 4000000
namespace Go.Proofs.YtoleahhfkpkcjaaGreatDoor
open Go.Proofs.Tryz
open Go.PF Go.RowKit Go.Ord
section
open Go.ChangeShapes Go.WideShapes Go.ChangeAt
theorem WL:ownKnob prog.godebug=none:=ZK
theorem U2:laidOutB prog=true:=ZK
theorem bQ {n:Int} (h:(Lit.int .i64 n).wf=true):fF n:=by
 simp only [Lit.wf,Bool.and_eq_true,decide_eq_true_eq] at h;exact h
theorem JA:Opens prog 3 aS:=by
 intro H e w b a c d j x f;obtain ⟨g,h,_,i⟩:=DataW.trod_int underlying3 f;exact ⟨g,h,bQ i⟩
theorem Fu:Opens prog 66 (sliceT aS):=Opens.slice underlying66 ZK JA
theorem Jt:Opens prog 9 eT:=by
 intro H e w b a c d j x f;obtain ⟨g,h,_,i⟩:=DataW.trod_string underlying9 f;exact ⟨g,h,i⟩
theorem qM:Opens prog 23 (sliceT eT):=Opens.slice underlying23 ZK Jt
theorem Fy:Opens prog 4 boolT:=by
 intro H e w b a c d i x f;obtain ⟨g,h,_⟩:=DataW.trod_bool underlying4 f;exact ⟨g,h⟩
theorem Cx:Opens prog 149 (sliceT boolT):=Opens.slice underlying149 ZK Fy
theorem Me:Opens prog 74 yh:=by
 intro H g w e d f q z x A;obtain ⟨B,n,_,_,i,m,o⟩:=DataW.trod_struct underlying74 A;have C:prog.cellsOf 74=3:=ZK;have p:prog.cellsOf 3=1:=ZK
 match z,i.trans C with
 | [j,k,l],_ =>
  match B,m with
  | [r,s,t],_ =>
   have D:DataW.trod g prog w e d f n 3 [j]=some r:=by
    have h:DataW.trod g prog w e d f n 3 (([j,k,l].drop 0).take (prog.cellsOf 3))=some r:=o 0 _ rfl;rw [p] at h;exact h
   have E:DataW.trod g prog w e d f n 3 [k]=some s:=by
    have h:DataW.trod g prog w e d f n 3 (([j,k,l].drop 1).take (prog.cellsOf 3))=some s:=o 1 _ rfl;rw [p] at h;exact h
   have F:DataW.trod g prog w e d f n 3 [l]=some t:=by
    have h:DataW.trod g prog w e d f n 3 (([j,k,l].drop 2).take (prog.cellsOf 3))=some t:=o 2 _ rfl;rw [p] at h;exact h
   obtain ⟨a,u,_,G⟩:=DataW.trod_int underlying3 D;obtain ⟨b,v,_,I⟩:=DataW.trod_int underlying3 E;obtain ⟨c,y,_,J⟩:=DataW.trod_int underlying3 F;simp at u v y;subst u v y;exact ⟨⟨a,b,c⟩,rfl,bQ G,bQ I,bQ J⟩
theorem opens_scs:Opens prog 30 (sliceT yh):=Opens.slice underlying30 ZK Me
theorem Mf:Opens prog 57 rcT:=by
 intro H i w f e g y M x N;obtain ⟨O,n,_,_,t,v,r⟩:=DataW.trod_struct underlying57 N;have R:prog.cellsOf 57=6:=ZK;have u:prog.cellsOf 3=1:=ZK;have S:prog.cellsOf 9=1:=ZK;have U:prog.cellsOf 23=1:=ZK
 match M,t.trans R with
 | [k,m,o,p,q,j],_ =>
  match O,v with
  | [z,A,B,C,D,E],_ =>
   have W:DataW.trod i prog w f e g n 3 [k]=some z:=by
    have h:DataW.trod i prog w f e g n 3 (([k,m,o,p,q,j].drop 0).take (prog.cellsOf 3))=some z:=r 0 _ rfl;rw [u] at h;exact h
   have Y:DataW.trod i prog w f e g n 3 [m]=some A:=by
    have h:DataW.trod i prog w f e g n 3 (([k,m,o,p,q,j].drop 1).take (prog.cellsOf 3))=some A:=r 1 _ rfl;rw [u] at h;exact h
   have Z:DataW.trod i prog w f e g n 3 [o]=some B:=by
    have h:DataW.trod i prog w f e g n 3 (([k,m,o,p,q,j].drop 2).take (prog.cellsOf 3))=some B:=r 2 _ rfl;rw [u] at h;exact h
   have e3:DataW.trod i prog w f e g n 3 [p]=some C:=by
    have h:DataW.trod i prog w f e g n 3 (([k,m,o,p,q,j].drop 3).take (prog.cellsOf 3))=some C:=r 3 _ rfl;rw [u] at h;exact h
   have e4:DataW.trod i prog w f e g n 9 [q]=some D:=by
    have h:DataW.trod i prog w f e g n 9 (([k,m,o,p,q,j].drop 4).take (prog.cellsOf 9))=some D:=r 4 _ rfl;rw [S] at h;exact h
   have e5:DataW.trod i prog w f e g n 23 [j]=some E:=by
    have h:DataW.trod i prog w f e g n 23 (([k,m,o,p,q,j].drop 5).take (prog.cellsOf 23))=some E:=r 5 _ rfl;rw [U] at h;exact h
   obtain ⟨a,F,_,w0⟩:=DataW.trod_int underlying3 W;obtain ⟨b,G,_,w1⟩:=DataW.trod_int underlying3 Y;obtain ⟨c,I,_,w2⟩:=DataW.trod_int underlying3 Z;obtain ⟨d,J,_,w3⟩:=DataW.trod_int underlying3 e3;obtain ⟨s,K,_,w4⟩:=DataW.trod_string underlying9 e4;obtain ⟨l,lv,L,w5⟩:=qM i w f e g n [j] _ e5;simp at F G I J K L;subst F G I J K L;exact ⟨⟨a,b,c,d,s,l⟩,_,rfl,bQ w0,bQ w1,bQ w2,bQ w3,w4,w5⟩
theorem opens_rcs:Opens prog 31 (sliceT rcT):=Opens.slice underlying31 ZK Mf
theorem JC:Opens prog 151 calT:=by
 intro H g w e d f p y x z;obtain ⟨A,n,_,_,i,m,o⟩:=DataW.trod_struct underlying151 z;have B:prog.cellsOf 151=3:=ZK;have C:prog.cellsOf 3=1:=ZK;have D:prog.cellsOf 149=1:=ZK;have E:prog.cellsOf 66=1:=ZK
 match y,i.trans B with
 | [l,j,k],_ =>
  match A,m with
  | [q,r,s],_ =>
   have F:DataW.trod g prog w e d f n 3 [l]=some q:=by
    have h:DataW.trod g prog w e d f n 3 (([l,j,k].drop 0).take (prog.cellsOf 3))=some q:=o 0 _ rfl;rw [C] at h;exact h
   have G:DataW.trod g prog w e d f n 149 [j]=some r:=by
    have h:DataW.trod g prog w e d f n 149 (([l,j,k].drop 1).take (prog.cellsOf 149))=some r:=o 1 _ rfl;rw [D] at h;exact h
   have I:DataW.trod g prog w e d f n 66 [k]=some s:=by
    have h:DataW.trod g prog w e d f n 66 (([l,j,k].drop 2).take (prog.cellsOf 66))=some s:=o 2 _ rfl;rw [E] at h;exact h
   obtain ⟨a,t,_,J⟩:=DataW.trod_int underlying3 F;obtain ⟨b,M,u,K⟩:=Cx g w e d f n [j] _ G;obtain ⟨c,N,v,L⟩:=Fu g w e d f n [k] _ I;simp at t u v;subst t u v;exact ⟨⟨a,b,c⟩,_,_,rfl,bQ J,K,L⟩
theorem Fx:Opens prog 22 (sliceT calT):=Opens.slice underlying22 ZK JC
theorem Mg:Opens prog 153 eT:=by
 intro H e w c b d i m x o;obtain ⟨p,n,_,_,f,g,q⟩:=DataW.trod_struct underlying153 o;have r:prog.cellsOf 153=1:=ZK;have s:prog.cellsOf 9=1:=ZK
 match m,f.trans r with
 | [j],_ =>
  match p,g with
  | [k],_ =>
   have t:DataW.trod e prog w c b d n 9 [j]=some k:=by
    have h:DataW.trod e prog w c b d n 9 (([j].drop 0).take (prog.cellsOf 9))=some k:=q 0 _ rfl;rw [s] at h;exact h
   obtain ⟨a,l,_,u⟩:=DataW.trod_string underlying9 t;simp at l;subst l;exact ⟨a,rfl,u⟩
theorem Ju:Opens prog 24 (sliceT eT):=Opens.slice underlying24 ZK Mg
theorem Mh:Opens prog 155 ofT:=by
 intro H l w j i k A S x U;obtain ⟨W,n,_,_,v,z,u⟩:=DataW.trod_struct underlying155 U;have Y:prog.cellsOf 155=7:=ZK;have Z:prog.cellsOf 9=1:=ZK;have y:prog.cellsOf 3=1:=ZK;have k2:prog.cellsOf 23=1:=ZK
 match S,v.trans Y with
 | [o,p,q,r,s,t,m],_ =>
  match W,z with
  | [B,C,D,E,F,G,I],_ =>
   have e0:DataW.trod l prog w j i k n 9 [o]=some B:=by
    have h:DataW.trod l prog w j i k n 9 (([o,p,q,r,s,t,m].drop 0).take (prog.cellsOf 9))=some B:=u 0 _ rfl;rw [Z] at h;exact h
   have e1:DataW.trod l prog w j i k n 3 [p]=some C:=by
    have h:DataW.trod l prog w j i k n 3 (([o,p,q,r,s,t,m].drop 1).take (prog.cellsOf 3))=some C:=u 1 _ rfl;rw [y] at h;exact h
   have e2:DataW.trod l prog w j i k n 3 [q]=some D:=by
    have h:DataW.trod l prog w j i k n 3 (([o,p,q,r,s,t,m].drop 2).take (prog.cellsOf 3))=some D:=u 2 _ rfl;rw [y] at h;exact h
   have e3:DataW.trod l prog w j i k n 3 [r]=some E:=by
    have h:DataW.trod l prog w j i k n 3 (([o,p,q,r,s,t,m].drop 3).take (prog.cellsOf 3))=some E:=u 3 _ rfl;rw [y] at h;exact h
   have e4:DataW.trod l prog w j i k n 3 [s]=some F:=by
    have h:DataW.trod l prog w j i k n 3 (([o,p,q,r,s,t,m].drop 4).take (prog.cellsOf 3))=some F:=u 4 _ rfl;rw [y] at h;exact h
   have e5:DataW.trod l prog w j i k n 3 [t]=some G:=by
    have h:DataW.trod l prog w j i k n 3 (([o,p,q,r,s,t,m].drop 5).take (prog.cellsOf 3))=some G:=u 5 _ rfl;rw [y] at h;exact h
   have e6:DataW.trod l prog w j i k n 23 [m]=some I:=by
    have h:DataW.trod l prog w j i k n 23 (([o,p,q,r,s,t,m].drop 6).take (prog.cellsOf 23))=some I:=u 6 _ rfl;rw [k2] at h;exact h
   obtain ⟨a,J,_,w0⟩:=DataW.trod_string underlying9 e0;obtain ⟨b,K,_,w1⟩:=DataW.trod_int underlying3 e1;obtain ⟨c,L,_,w2⟩:=DataW.trod_int underlying3 e2;obtain ⟨d,M,_,w3⟩:=DataW.trod_int underlying3 e3;obtain ⟨e,N,_,w4⟩:=DataW.trod_int underlying3 e4;obtain ⟨f,O,_,w5⟩:=DataW.trod_int underlying3 e5;obtain ⟨g,gv,R,w6⟩:=qM l w j i k n [m] _ e6;simp at J K L M N O R;subst J K L M N O R;exact ⟨⟨a,b,c,d,e,f,g⟩,_,rfl,w0,bQ w1,bQ w2,bQ w3,bQ w4,bQ w5,w6⟩
theorem Jy:Opens prog 25 (sliceT ofT):=Opens.slice underlying25 ZK Mh
theorem Mj:Opens prog 157 KO:=by
 intro H k w i g j y M x N;obtain ⟨O,n,_,_,t,v,s⟩:=DataW.trod_struct underlying157 N;have R:prog.cellsOf 157=6:=ZK;have S:prog.cellsOf 9=1:=ZK;have u:prog.cellsOf 3=1:=ZK
 match M,t.trans R with
 | [l,m,o,p,q,r],_ =>
  match O,v with
  | [z,A,B,C,D,E],_ =>
   have U:DataW.trod k prog w i g j n 9 [l]=some z:=by
    have h:DataW.trod k prog w i g j n 9 (([l,m,o,p,q,r].drop 0).take (prog.cellsOf 9))=some z:=s 0 _ rfl;rw [S] at h;exact h
   have W:DataW.trod k prog w i g j n 3 [m]=some A:=by
    have h:DataW.trod k prog w i g j n 3 (([l,m,o,p,q,r].drop 1).take (prog.cellsOf 3))=some A:=s 1 _ rfl;rw [u] at h;exact h
   have Y:DataW.trod k prog w i g j n 3 [o]=some B:=by
    have h:DataW.trod k prog w i g j n 3 (([l,m,o,p,q,r].drop 2).take (prog.cellsOf 3))=some B:=s 2 _ rfl;rw [u] at h;exact h
   have Z:DataW.trod k prog w i g j n 3 [p]=some C:=by
    have h:DataW.trod k prog w i g j n 3 (([l,m,o,p,q,r].drop 3).take (prog.cellsOf 3))=some C:=s 3 _ rfl;rw [u] at h;exact h
   have e4:DataW.trod k prog w i g j n 3 [q]=some D:=by
    have h:DataW.trod k prog w i g j n 3 (([l,m,o,p,q,r].drop 4).take (prog.cellsOf 3))=some D:=s 4 _ rfl;rw [u] at h;exact h
   have e5:DataW.trod k prog w i g j n 3 [r]=some E:=by
    have h:DataW.trod k prog w i g j n 3 (([l,m,o,p,q,r].drop 5).take (prog.cellsOf 3))=some E:=s 5 _ rfl;rw [u] at h;exact h
   obtain ⟨a,F,_,w0⟩:=DataW.trod_string underlying9 U;obtain ⟨b,G,_,w1⟩:=DataW.trod_int underlying3 W;obtain ⟨c,I,_,w2⟩:=DataW.trod_int underlying3 Y;obtain ⟨d,J,_,w3⟩:=DataW.trod_int underlying3 Z;obtain ⟨e,K,_,w4⟩:=DataW.trod_int underlying3 e4;obtain ⟨f,L,_,w5⟩:=DataW.trod_int underlying3 e5;simp at F G I J K L;subst F G I J K L;exact ⟨⟨a,b,c,d,e,f⟩,rfl,w0,bQ w1,bQ w2,bQ w3,bQ w4,bQ w5⟩
theorem Jz:Opens prog 26 (sliceT KO):=Opens.slice underlying26 ZK Mj
theorem JB:Opens prog 159 yB:=by
 intro H g w e d f p z x A;obtain ⟨B,n,_,_,i,m,o⟩:=DataW.trod_struct underlying159 A;have C:prog.cellsOf 159=3:=ZK;have D:prog.cellsOf 9=1:=ZK;have q:prog.cellsOf 3=1:=ZK
 match z,i.trans C with
 | [j,k,l],_ =>
  match B,m with
  | [r,s,t],_ =>
   have E:DataW.trod g prog w e d f n 9 [j]=some r:=by
    have h:DataW.trod g prog w e d f n 9 (([j,k,l].drop 0).take (prog.cellsOf 9))=some r:=o 0 _ rfl;rw [D] at h;exact h
   have F:DataW.trod g prog w e d f n 3 [k]=some s:=by
    have h:DataW.trod g prog w e d f n 3 (([j,k,l].drop 1).take (prog.cellsOf 3))=some s:=o 1 _ rfl;rw [q] at h;exact h
   have G:DataW.trod g prog w e d f n 3 [l]=some t:=by
    have h:DataW.trod g prog w e d f n 3 (([j,k,l].drop 2).take (prog.cellsOf 3))=some t:=o 2 _ rfl;rw [q] at h;exact h
   obtain ⟨a,u,_,I⟩:=DataW.trod_string underlying9 E;obtain ⟨b,v,_,J⟩:=DataW.trod_int underlying3 F;obtain ⟨c,y,_,K⟩:=DataW.trod_int underlying3 G;simp at u v y;subst u v y;exact ⟨⟨a,b,c⟩,rfl,I,bQ J,bQ K⟩
theorem Fv:Opens prog 27 (sliceT yB):=Opens.slice underlying27 ZK JB
def WQ:Ty Net where
 n:=6
 rep:=λF w cs N=> ∃v:NV,cs=v.cells/\NetIn F w v N
 len:=λ_ _ _ _ h=>by obtain ⟨v,h,_⟩:=h; rw [h]; rfl
 mono:=λ_ _ _ _ _ hk h=>by obtain ⟨v,h,h1⟩:=h; exact ⟨v,h,h1.c.mono hk,h1.n.mono hk,h1.o.mono hk,h1.f.mono hk,h1.l.mono hk,h1.k.mono hk⟩
 wider:=λ_ _ _ _ _ hF h=>by obtain ⟨v,h,h1⟩:=h; exact ⟨v,h,h1.wider hF⟩
theorem opens_net:Opens prog 29 WQ:=by
 intro H k w i g j v L x M;obtain ⟨N,n,_,_,t,u,s⟩:=DataW.trod_struct underlying29 M;have O:prog.cellsOf 29=6:=ZK;have R:prog.cellsOf 22=1:=ZK;have S:prog.cellsOf 23=1:=ZK;have U:prog.cellsOf 24=1:=ZK;have W:prog.cellsOf 25=1:=ZK;have Y:prog.cellsOf 26=1:=ZK;have Z:prog.cellsOf 27=1:=ZK
 match L,t.trans O with
 | [l,m,o,p,q,r],_ =>
  match N,u with
  | [y,z,A,B,C,D],_ =>
   have e0:DataW.trod k prog w i g j n 22 [l]=some y:=by
    have h:DataW.trod k prog w i g j n 22 (([l,m,o,p,q,r].drop 0).take (prog.cellsOf 22))=some y:=s 0 _ rfl;rw [R] at h;exact h
   have e1:DataW.trod k prog w i g j n 23 [m]=some z:=by
    have h:DataW.trod k prog w i g j n 23 (([l,m,o,p,q,r].drop 1).take (prog.cellsOf 23))=some z:=s 1 _ rfl;rw [S] at h;exact h
   have e2:DataW.trod k prog w i g j n 24 [o]=some A:=by
    have h:DataW.trod k prog w i g j n 24 (([l,m,o,p,q,r].drop 2).take (prog.cellsOf 24))=some A:=s 2 _ rfl;rw [U] at h;exact h
   have e3:DataW.trod k prog w i g j n 25 [p]=some B:=by
    have h:DataW.trod k prog w i g j n 25 (([l,m,o,p,q,r].drop 3).take (prog.cellsOf 25))=some B:=s 3 _ rfl;rw [W] at h;exact h
   have e4:DataW.trod k prog w i g j n 26 [q]=some C:=by
    have h:DataW.trod k prog w i g j n 26 (([l,m,o,p,q,r].drop 4).take (prog.cellsOf 26))=some C:=s 4 _ rfl;rw [Y] at h;exact h
   have e5:DataW.trod k prog w i g j n 27 [r]=some D:=by
    have h:DataW.trod k prog w i g j n 27 (([l,m,o,p,q,r].drop 5).take (prog.cellsOf 27))=some D:=s 5 _ rfl;rw [Z] at h;exact h
   obtain ⟨a,av,E,w0⟩:=Fx k w i g j n [l] _ e0;obtain ⟨b,bv,F,w1⟩:=qM k w i g j n [m] _ e1;obtain ⟨c,cv,G,w2⟩:=Ju k w i g j n [o] _ e2;obtain ⟨d,dv,I,w3⟩:=Jy k w i g j n [p] _ e3;obtain ⟨e,ev,J,w4⟩:=Jz k w i g j n [q] _ e4;obtain ⟨f,fv,K,w5⟩:=Fv k w i g j n [r] _ e5;simp at E F G I J K;subst E F G I J K;exact ⟨⟨a,b,c,d,e,f⟩,⟨_,_,_,_,_,_⟩,rfl,⟨w0,w1,w2,w3,w4,w5⟩⟩
theorem yg {H:Type} {enc:TypeId×Value->H} {P:Program} {w:World} {base:Nat} {sp:Nat->Bool} {held:Bool} {fuel:Nat} {t e:TypeId} {n:Nat} {cs:List Value} {ss:List ByteArray} {p:List MemPlace} (A:P.underlying t=some (.array n e)) (he:P.underlying e=some .string) (k:P.cellsOf e=1) (B:P.cellsOf t=n)
  (h:DataW.trod enc P w base sp held fuel t cs=some (.agg (ss.map λs=> .lit (.string s.data.toList)),p)):cs=ss.map Value.string:=by
 obtain ⟨d,m,rfl,q,C,r,a⟩:=DataW.trod_array A h;have c:d.map (·.1)=ss.map λs=>(DataW.lit (.string s.data.toList):DataW H):=by
  have:=congrArg Prod.fst q;simpa using this.symm
 have u:ss.length=n:=by
  have:=congrArg List.length c;simp at this;omega
 apply List.ext_getElem?;intro i;by_cases v:i<n
 .have l:=a i v;obtain ⟨b,o⟩: ∃b,d[i]?=some b:=⟨d[i]'(by omega),ZD ZJ⟩;rw [o,k] at l;obtain ⟨s,f,rfl,_⟩:=DataW.trod_string he l;have x:cs[i]?=some (.string s):=by
   have:=congrArg (·[0]?) f;simpa [List.getElem?_take] using this
  have g:(d.map (·.1))[i]?=some (DataW.lit (.string s.data.toList):DataW H):=by simp [o]
  rw [c] at g;simp only [List.getElem?_map,Option.map_eq_some_iff,DataW.lit.injEq,Lit.string.injEq] at g;obtain ⟨z,y,j⟩:=g;have:=ByteArray.ext (Array.toList_inj.1 j);subst this;simp [x,y]
 .rw [List.getElem?_eq_none ZJ,List.getElem?_eq_none ZO]
abbrev laidAll:List (String×DataW Unit):= [("math/bits.deBruijn32tab",Rows.laid_math_bits_deBruijn32tab),("math/bits.deBruijn64tab",Rows.laid_math_bits_deBruijn64tab),("internal/strconv.uint64pow10",Rows.laid_internal_strconv_uint64pow10),("postilion/survey.keyWords",Rows.laid_postilion_survey_keyWords)]
theorem gKey:prog.globalNamed "postilion/survey.keyWords" = some 0:=ZK
theorem tKey:(prog.globals[0]?).map (·.type)=some 329:=ZK
theorem P9:(Rows.laid_postilion_survey_keyWords:DataW Unit)= .agg (keys11.map λs=> .lit (.string s.data.toList)):=ZN
theorem gPow:prog.globalNamed "internal/strconv.uint64pow10" = some 1:=ZK
theorem tPow:(prog.globals[1]?).map (·.type)=some 378:=ZK
theorem rG {W:World} (h:laidMetH prog laidAll W):Tabs W/\TabI W:=by
 obtain ⟨C,⟨D,E,l,F,G,H,m,n,o,p,⟨I,J,q,K,L,M,r,t,u,v,⟨N,O,w,R,S,U,c,d,e,a,⟨Y,Z,x,f3,p3,q3,f,g,j,b,_,_⟩,_⟩,_⟩,_⟩,_,_⟩:=h;obtain rfl:=Option.some.inj (gKey.symm.trans f);obtain rfl:=Option.some.inj (tKey.symm.trans g);obtain rfl:=Option.some.inj (gPow.symm.trans c);obtain rfl:=Option.some.inj (tPow.symm.trans d);rw [P9] at b;have y:=yg underlying329 underlying9 ZK ZK b;have z:(Rows.laid_internal_strconv_uint64pow10:DataW Unit)=Lib.tabData .u64 Lib.pow10Tab:=ZN;rw [z] at a;have A:=Lib.cells_of_tab underlying378 underlying273 ZK ZK a;refine ⟨⟨λi s k=> ?_⟩,⟨?_⟩⟩
 .have B:W.var? prog "postilion/survey.keyWords" = some (keys11.map Value.string).toArray:=by rw [j,<-y]
  have:=World.var?_cell gKey B i;rw [this];simp [k]
 .unfold Lib.TabIs;rw [e,<-A]
end
end Go.Proofs.YtoleahhfkpkcjaaGreatDoor
namespace Go.PF
open Go.RowKit
section
open Go.ChangeShapes Go.WideShapes Go.ChangeAt
section
variable {H:Type} {enc:TypeId×Value->H} {P:Program} {w:World} {base:Nat} {spare:Nat->Bool} {held:Bool}
theorem BJ {t0 t1 t2 t3 t4 t5:TypeId} {args:Array Value} {ds:List (DataW H)} {ps:List MemPlace} (h:DataW.TrodAll enc P w base spare held [t0,t1,t2,t3,t4,t5] args.toList ds ps) :
  ∃ a b c d e f g i j k l m n o p q r s,args= #[a,b,c,d,e,f]/\ds= [g,i,j,k,l,m]/\ps=n++o++p++q++r++s/\DataW.Trod enc P w base spare held t0 a g n/\DataW.Trod enc P w base spare held t1 b i o/\DataW.Trod enc P w base spare held t2 c j p/\DataW.Trod enc P w base spare held t3 d k q/\DataW.Trod enc P w base spare held t4 e l r/\DataW.Trod enc P w base spare held t5 f m s:=by
 obtain ⟨a,B,g,C,n,Z,t,rfl,rfl,u,D⟩:=trodAll_cons h;obtain ⟨b,E,i,F,o,q1,rfl,rfl,rfl,v,G⟩:=trodAll_cons D;obtain ⟨c,I,j,J,p,q2,rfl,rfl,rfl,x,K⟩:=trodAll_cons G;obtain ⟨d,L,k,M,q,q3,rfl,rfl,rfl,y,N⟩:=trodAll_cons K;obtain ⟨e,O,l,R,r,q4,rfl,rfl,rfl,z,S⟩:=trodAll_cons N;obtain ⟨f,U,m,W,s,q5,rfl,rfl,rfl,A,Y⟩:=trodAll_cons S;obtain ⟨rfl,rfl,rfl⟩:=trodAll_nil Y;exact ⟨a,b,c,d,e,f,g,i,j,k,l,m,n,o,p,q,r,s,by cases args; simp_all,rfl,ZM,u,v,x,y,z,A⟩
end
end
end Go.PF
namespace Go.Proofs.YtoleahhfkpkcjaaGreatDoor
open Go.Proofs.Tryz
theorem U3:laidOutB Tryz.checked.prog=true:=ZK
theorem Td:mapsRowed Tryz.checked.prog=true:=ZK
theorem Tj:Tryz.checked.prog.plainKeys=Rows.traceErrorsRow.plainKeys:=ZK
theorem Qa:Tryz.checked.prog.stopsHeard=true:=ZK
theorem Qb:Tryz.checked.prog.mayEnter=true:=ZK
theorem Ti:Tryz.checked.prog.liftsFinal=Rows.traceErrorsRow.lifted:=ZK
theorem Te:Tryz.checked.prog.make=some Rows.traceErrorsRow.make:=ZK
theorem Tg:false=Tryz.checked.prog.looks []:=ZK
theorem Tf:Tryz.checked.prog.mainIs=some (true, "1ca7458b00103d85651f3369158a287bd9cd61a88ddac9a3611f185cf9a2c61c".toList):=ZK
end Go.Proofs.YtoleahhfkpkcjaaGreatDoor
