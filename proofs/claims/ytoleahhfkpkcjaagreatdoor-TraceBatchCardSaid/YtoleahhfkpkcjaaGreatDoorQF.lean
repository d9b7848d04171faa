/- Texts of this claim,joined. -/
import Derived.Test.YtoleahhfkpkcjaaGreatDoorQE
import Derived.Deep.MidRow
import Derived.Test.YtoleahhfkpkcjaaGreatDoorProg
import Derived.KernelRfl
import Derived.Laws.Small
set_option linter.unusedSimpArgs false
set_option linter.unusedVariables false
set_option maxRecDepth 100000
set_option maxHeartbeats 4000000
variable {t e:Go.TypeId} {p:Prop} {a i n b m j o sz bm:Nat} {r:List Int} {xs cap:List Go.Value} {B x:Int} {ts:Array Go.TypeId} {cf:Option Bool} {w:Go.World}
namespace Go.PF
open Go.RowKit
section
section
variable {P:Program} {N:Nat} {ds:List Deferred} {ops rest:List Oper} {D:DE} {w:World} {G:Option Bool} {Fin:DE->Prop} {d:Option Tmp} {ty:TypeId} {pos:String} {af:Array Edge} {gu:Option (Nat×Bool)} {x y z:Operand} {cx cy cz:Option Bool} {o:Option Nat} {tk:Nat}
theorem vB {f:Operand} {k:FuncId} {xs:List Operand} {es:List Ent} (φ:Value->World->Prop) (hm: ∀v w c,ZT w c->φ v w->φ v c) (m:d=some tk) (A:fD ops D gu=some G) (B:aC N d=true) (he:enters P k=true)
  (C:dev D f=some (cf,.ex (.func (.func k) #[] cap.toArray))) (E:aF G->aF cf) (F:PArgs (Oper.looksAt ops.toArray ⟨d,.call ⟨.value f,xs.toArray,ts⟩,ty,pos,af,gu⟩) N ds D G xs es)
  (H:aF G-> ∀c,w.grownBy c o->(∀g,o=some g->g<w.heap.size->c.heap[g]?=w.heap[g]?)-> ∀r,Sats es r c->Gives P k (r++cap).toArray c λv e=>c.grownBy e o/\φ v e)
  (next:DR P N ds ops w o tk Fin rest (bE D d G (.pr φ))):DR P N ds ops w o tk Fin (⟨d,.call ⟨.value f,xs.toArray,ts⟩,ty,pos,af,gu⟩::rest) D:=by
 have b:kY tk ⟨d,.call ⟨.value f,xs.toArray,ts⟩,ty,pos,af,gu⟩=true:=by subst m; simp [kY]
 refine ⟨G,.pr φ,⟨A,B,rfl,λu I J n p i h=>hm _ _ _ (i b) h,rfl,λs p=>by simp at p,λj a c n l q=> .inr ?_⟩,next⟩;refine ⟨_,_,lK he (q.eval C ZP (E j)) rfl,(H j c n (l b) _ (F (λt x=>bB (by simp [Op.operands,Call.operands,x])) a c q j)).mono λv e ⟨y,z⟩=>⟨y,⟨λh=> ?_,λ_=>trivial⟩,z,λ_ h=>h.elim⟩⟩;rw [show (E6 w o tk).tok=kY tk from rfl,b] at h;cases h
theorem Ez {f:Operand} {k:FuncId} {xs:List Operand} {vs:List Value} (φ:Value->World->Prop) (hm: ∀v w b,w.grownBy b o->φ v w->φ v b) (r:fD ops D gu=some G) (x:aC N d=true) (he:enters P k=true)
  (y:dev D f=some (cf,.ex (.func (.func k) #[] cap.toArray))) (z:aF G->aF cf) (A:DArgs (Oper.looksAt ops.toArray ⟨d,.call ⟨.value f,xs.toArray,ts⟩,ty,pos,af,gu⟩) N ds D G xs vs)
  (B:aF G-> ∀b,w.grownBy b o->Gives P k (vs++cap).toArray b λv c=>ZT b c/\φ v c)
  (next:DR P N ds ops w o tk Fin rest (bE D d G (.pr φ))):DR P N ds ops w o tk Fin (⟨d,.call ⟨.value f,xs.toArray,ts⟩,ty,pos,af,gu⟩::rest) D :=
 ⟨G,.pr φ,⟨r,x,rfl,λu C E i e m h=>hm _ _ _ e h,rfl,λs e=>by simp at e,λg a b i n j=> .inr
  ⟨_,_,lK he (j.eval y ZP (z g)) (A (λt p=>bB (by simp [Op.operands,Call.operands,p])) a b j g),(B g b i).mono λv c ⟨l,q⟩=>⟨GB.of_below l,⟨λ_=>l,λ_=>trivial⟩,q,λ_ h=>h.elim⟩⟩⟩,next⟩
theorem pI (e:TypeId) {len:Nat} {parts:Array (Nat×Operand)} (xs:List Operand) {es:List Ent} (φ:Value->World->Prop) (hm: ∀v w b,w.grownBy b o->φ v w->φ v b) (z:fD ops D gu=some G) (A:aC N d=true) (hp:parts.toList=number xs) (he:cB P t e sz=true)
  (B:PArgs (Oper.looksAt ops.toArray ⟨d,.buildSlice t len parts,ty,pos,af,gu⟩) N ds D G xs es) (hl:len=xs.length) (m:Nat.ble (xs.length*sz) 16777216=true) (i:Nat.blt 0 xs.length=true)
  (h:aF G-> ∀l b,w.grownBy b o->Sats es l b->(∀v∈l,v.cells.size=sz)/\ ∀g f,Fresh b f g e (l.flatMap λv=>v.cells.toList)->φ (.slice (some ⟨g,0,none⟩) len len) f)
  (next:DR P N ds ops w o tk Fin rest (bE D d G (.pr φ))):DR P N ds ops w o tk Fin (⟨d,.buildSlice t len parts,ty,pos,af,gu⟩::rest) D:=by
 refine ⟨G,.pr φ,⟨z,A,rfl,λv C E n k _ q=>hm _ _ _ k q,rfl,λs k=>by simp at k,λp a b n _ r=> .inl ?_⟩,next⟩;have c:=B (λt u=>bB (by
  simp only [Op.operands];rw [hp];simp only [number,List.map_map];rw [List.mem_map];obtain ⟨j,F,he⟩:=List.getElem_of_mem u;exact ⟨(Operand.tmp t,j),by rw [List.mem_zipIdx_iff_getElem?]; simp [he.symm],rfl⟩)) a b r p
 obtain ⟨x,y⟩:=h p _ b n c;refine ⟨_,_,.inl (fK hp (by rw [hl,List.length_map]) he rfl x (by rw [List.length_map]; exact Nat.le_of_ble_eq_true m) (by rw [List.length_map]; exact blt_iff.1 i)),GB.of_below ((ZA).alloc ZC _),⟨λ_=>(ZA).alloc ZC _,λ_=>trivial⟩,(by rw [show (List.map a.eval xs).length=len by rw [hl,List.length_map]]; exact y _ _ (gD b e _)),λ_ h=>h.elim⟩
theorem KJ {fi:Nat} {φ:Value->World->Prop} (ψ:Value->World->Prop) (p:fD ops D gu=some G) (q:aC N d=true) (r:dev D x=some (cx,.pr φ)) (y:aF G->aF cx) (hm: ∀v w b,w.grownBy b o->ψ v w->ψ v b)
  (h: ∀u w,φ u w-> ∃e v,u= .agg e/\sH P t fi e=some v/\ψ v w)
  (next:DR P N ds ops w o tk Fin rest (bE D d G (.pr ψ))):DR P N ds ops w o tk Fin (⟨d,.field t x fi,ty,pos,af,gu⟩::rest) D:=by
 refine ⟨G,.pr ψ,⟨p,q,rfl,λu z A f c g h=>hm _ _ _ c h,rfl,λs c=>by simp at c,λi a b f _ j=> .inl ?_⟩,next⟩;have k:=j.evalP r ZQ (y i);obtain ⟨e,v,l,m,n⟩:=h _ _ k;exact ⟨v,b,.inl (QE m l),GB.refl _,⟨λ_=>ZA,λ_=>trivial⟩,n,λ_ h=>h.elim⟩
end
section
variable {P:Program} {r:Option Nat} {Q:Exit->Act->World->Prop} {N:Nat} {ds:List Deferred} {ops rest:List Oper} {E:Env} {w:World}
variable {d:Option Tmp} {ty:TypeId} {pos:String} {af:Array Edge} {gu:Option (Nat×Bool)} {x y z:Operand}
variable {κ:Type} {kt:TypeId}
theorem Kw (K:GKey P kt κ) {et:TypeId} {m:List (κ×Value)} (j:gu=none) (k:aC N d=true) (l:P.underlying t=some (.map kt et)) (n:ev E x=some (none,.map (some bm))) (hm:MapL K w bm m)
  (next:TW P r Q N ds ops rest (ins E d none (ZU (m.length:Int))) w):TW P r Q N ds ops (⟨d,.call ⟨.builtin .len,#[x],#[t]⟩,ty,pos,af,gu⟩::rest) E w:=by
 obtain ⟨⟨e,f,g,h,_⟩,_⟩:=hm;have b:(getObj bm).run P w= .ok (.map e f) w:=by simp [getObj,Sem.run,g]
 have c:e.size=m.length:=by have:=congrArg List.length h; simpa using this
 refine ek j k rfl (λa i=> ?_) next
 simp only [execOp,resolve,Go.invoke,builtin,List.map_toArray,List.map_cons];rw [i.eval n trivial];simp [Builtin.len_,run_underlying l,b,goInt,c]
theorem yF (K:GKey P kt κ) {et:TypeId} {it:Nat} {m:List (κ×Value)} {pre:List κ} {last:Option (κ×Value)} (k:κ) {vz:Value} (i:gu=none) (j:P.underlying t=some (.map kt et))
  (l:ev E x=some (none,.map (some bm))) (n:ev E y=some (none,K.enc k)) (o:ev E z=some (none,vz)) (hm:WalkM K w it bm m pre last) (e: ∃u,(k,u)∈m)
  (next: ∀b,b.heap.size=w.heap.size->But bm w b->WalkM K b it bm (jK m k vz) pre none->TW P r Q N ds ops rest E b):TW P r Q N ds ops (⟨none,.mapUpdate t x y z,ty,pos,af,gu⟩::rest) E w:=by
 obtain ⟨b,c,f,g,h⟩:=BG K j hm e vz;exact mr i rfl rfl (λa d=>by simp only [execOp]; rw [d.eval l trivial,d.eval n trivial,d.eval o trivial]; simp [c]) (next b f g h)
theorem GN (K:GKey P kt κ) {t2 et:TypeId} {it:Nat} {m:List (κ×Value)} {pre:List κ} {last:Option (κ×Value)} (k:κ) (l:gu=none) (n:P.underlying t=some (.map kt et))
  (o:ev E x=some (none,.map (some bm))) (q:ev E y=some (none,K.enc k)) (hm:WalkM K w it bm m pre last) (e: ∃u,(k,u)∈m)
  (next: ∀b d,b.heap.size=w.heap.size->But bm w b->WalkM K b it bm d pre none->(∀p,p∈d↔p∈m/\p.1≠k)->TW P r Q N ds ops rest E b):TW P r Q N ds ops (⟨none,.call ⟨.builtin .delete,#[x,y],#[t,t2]⟩,ty,pos,af,gu⟩::rest) E w:=by
 obtain ⟨b,d,c,g,h,i,j⟩:=BH (ats:= #[t,t2]) K rfl n hm e;refine ek (v:= .tuple #[]) l rfl rfl (λa f=> ?_) (next b d g h i j);simp only [execOp,resolve,Go.invoke,builtin,Sem.run_bind,Sem.run_pure,Result.andThen_ok,List.map_toArray,List.map_cons,List.map_nil];rw [f.eval o trivial,f.eval q trivial];rw [c];rfl
def Ss:List Value->Nat->List Value->List Value
 | l,_,[]=>l
 | l,o,v::vs=>Ss (l.set o v) (o+1) vs
theorem sP {g:Nat} {t:TypeId}: ∀ {a:List Value} {o:Nat} {w:World} {l:List Value},Blk w g t l->Blk (w.setCells g o a) g t (Ss l o a)
 | [],_,_,_,h=>h
 | v::a,o,w,l,h=>by
  rw [World.setCells];exact sP (h.set o v)
theorem but_setCells {g:Nat}: ∀ {vs:List Value} {o:Nat} {w:World},But g w (w.setCells g o vs)/\(w.setCells g o vs).heap.size=w.heap.size
 | [],_,w=>⟨GB.refl w,rfl⟩
 | v::vs,o,w=>by
  obtain ⟨h1,h2⟩:=but_setCells;exact ⟨But.trans But.setCell h1,h2.trans ZM⟩
theorem Bn {t1:TypeId} {g off:Nat} {old cs:List Value} (i:gu=none) (e:ev E x=some (none,.pointer (some (Addr.add ⟨g,0,none⟩ off)))) (k:ev E y=some (none,.agg cs.toArray)) (c:Blk w g t1 old) (hs:(P.info? t).map (·.size)=some n) (hn:cs.length=n) (l:off+n<=old.length)
  (h1:cs.all (·.oneCell')=true) (next: ∀b,Blk b g t1 (Ss old off cs)->But g w b->b.heap.size=w.heap.size->TW P r Q N ds ops rest E b):TW P r Q N ds ops (⟨none,.store t x y,ty,pos,af,gu⟩::rest) E w:=by
 subst hn;rw [dQ] at e;refine mr i rfl rfl (λa d=> ?_) (next _ (sP c) but_setCells.1 but_setCells.2);simp only [execOp]; rw [d.eval e trivial,d.eval k trivial];have h:=Go.run_storeVar_mid w g off t cs.toArray (λj f=>⟨by
  rw [c.cell,ZD (by simp at f; omega)]; rfl,c.frozen _⟩) (by simpa using hs) (by simpa using h1)
 simp [Instr.storeAt,Instr.sureAddr,h]
theorem nU {c g:Nat} {u:Value} (m:gu=none) (hs:(P.info? t).map (·.size)=some 1) (i:ev E x=some (none,.pointer (some (Addr.add ⟨g,0,none⟩ j)))) (o:ev E y=some (none,u)) (b:OwnS w e sz (.slice (some ⟨g,0,none⟩) n c) n xs)
  (hj:j<xs.length) (h1:u.oneCell'=true) (next: ∀f,OwnS f e sz (.slice (some ⟨g,0,none⟩) n c) n (xs.set j u)->But g w f->f.heap.size=w.heap.size->TW P r Q N ds ops rest E f):TW P r Q N ds ops (⟨none,.store t x y,ty,pos,af,gu⟩::rest) E w:=by
 obtain ⟨A,k,p,_,_,l⟩:=b.form;obtain ⟨q,s,a,d,h⟩:=l j xs[j] (ZD hj);simp [Value.ownBlock] at a;subst a;rw [dQ] at i;exact fu m hs i o d h h1 (next _ (b.set rfl hj u) .setCell ZM)
theorem OwnS.cellS {w:World} {c:Nat} {A:Option Addr} {u:Value} (h:OwnS w e sz (.slice A n c) n xs) (hj:xs[j]?=some u): ∃g,A=some ⟨g,0,none⟩/\w.cell? (Addr.add ⟨g,0,none⟩ j)=some u:=by
 obtain ⟨o,d,f,_,_,i⟩:=h.form;obtain ⟨k,l,b,a,m⟩:=i j u hj;cases f;exact ⟨k,l,by rw [dQ]; exact a⟩
end
section
variable {P:Program} {N:Nat} {ds:List Deferred} {ops rest:List Oper} {D:DE} {w:World} {G:Option Bool} {Fin:DE->Prop} {d:Option Tmp} {ty:TypeId} {pos:String} {af:Array Edge} {gu:Option (Nat×Bool)} {x:Operand} {o:Option Nat} {tk:Nat}
theorem G4 {bytes:Nat} {s:Operand} {v:Value} (ψ φ:Value->World->Prop) (hm: ∀v w k,ZT w k->φ v w->φ v k) (F:d=some tk) (z:fD ops D gu=some none) (Y:aC N d=true) (G:bZ P t e sz bytes=true)
  (hs:dev D s=some (none,.ex v)) (p:OwnS w e sz v n xs) (l:v.ownBlock=o) (Z:dev D x=some (none,.pr ψ)) (hb:(n+m)*bytes<=140737488355328) (H:1<=bytes)
  (hψ: ∀u k,w.grownBy k o->ψ u k-> ∃g b,u= .slice (some ⟨g,0,none⟩) m m/\Blk k g e b/\b.length=m*sz/\(∀u∈b,u.oneCell'=true)/\ ∀y f,k.grownBy f o->OwnS f e sz y (n+m) (xs++b)->(y.ownBlock=o\/y.ownBlock=some k.heap.size)->φ y f)
  (next:DR P N ds ops w o tk Fin rest (bE D d none (.pr φ))) :
  DR P N ds ops w o tk Fin (⟨d,.call ⟨.builtin .append,#[s,x],#[t,t]⟩,ty,pos,af,gu⟩::rest) D:=by
 have i:kY tk ⟨d,.call ⟨.builtin .append,#[s,x],#[t,t]⟩,ty,pos,af,gu⟩=true:=by subst F; simp [kY]
 refine ⟨none,.pr φ,⟨z,Y,rfl,λu w1 w2 I hs B h=>hm _ _ _ (B i) h,rfl,λs hs=>by simp at hs,λhG a k I q J=> .inl ?_⟩,next⟩;have q:=q i;have r:=p.kept λg z=>q g (l ▸ z) (p.lt z);obtain ⟨g,b,C,E,L,M,O⟩:=hψ _ k I (J.evalP Z ZP trivial);obtain ⟨y,f,R,S,K,U⟩:=lJ G r L (λj u W=>⟨_,rfl,E.fld W⟩) M hb H;refine ⟨y,f,.inl ?_,l ▸ K,⟨λh=> ?_,λ_=>trivial⟩,O y f (l ▸ K) S (l ▸ U),λ_ h=>h.elim⟩
 .simp only [execOp,resolve,invoke,builtin,Sem.run_bind,Sem.run_pure,Result.andThen_ok,List.map_toArray,List.map_cons,List.map_nil];rw [J.eval hs ZP trivial,C];rw [R];rfl
 .rw [show (E6 w o tk).tok=kY tk from rfl,i] at h;cases h
end
end
end Go.PF
namespace Go.Proofs.YtoleahhfkpkcjaaGreatDoor
open Go.Proofs.Tryz
open Go.PF
theorem mixed:prog.follows .mixedOrders=true:=ZK
instance YC:Mx prog:=⟨mixed⟩
instance io3:One prog 3:=⟨ZK⟩
instance is3:Sz prog 3 1:=⟨ZK⟩
instance :Und prog 3 (.int .i64):=⟨underlying3⟩
theorem Ye:zeroCells prog 3=some [ZU 0]:=ZK
theorem Ub:(prog.info? 3).bind (·.zero)=some (ZU 0):=ZK
instance io4:One prog 4:=⟨ZK⟩
instance is4:Sz prog 4 1:=⟨ZK⟩
instance :Und prog 4 (.bool):=⟨underlying4⟩
theorem Yd:zeroCells prog 4=some [.bool false]:=ZK
theorem Ua:(prog.info? 4).bind (·.zero)=some (.bool false):=ZK
instance :One prog 5:=⟨ZK⟩
instance :Sz prog 5 1:=⟨ZK⟩
instance :Und prog 5 (.int .u8):=⟨underlying5⟩
instance io9:One prog 9:=⟨ZK⟩
instance :Sz prog 9 1:=⟨ZK⟩
instance :Und prog 9 (.string):=⟨underlying9⟩
instance :Und prog 21 (.int .i32):=⟨underlying21⟩
instance :One prog 22:=⟨ZK⟩
instance :Sz prog 22 1:=⟨ZK⟩
instance :Und prog 22 (.slice 151):=⟨underlying22⟩
theorem Vf:cB prog 22 151 3=true:=ZK
theorem Xg:bZ prog 22 151 3 56=true:=ZK
instance :One prog 23:=⟨ZK⟩
instance is23:Sz prog 23 1:=⟨ZK⟩
instance :Und prog 23 (.slice 9):=⟨underlying23⟩
theorem yx:cB prog 23 9 1=true:=ZK
theorem Dl:bZ prog 23 9 1 16=true:=ZK
instance :One prog 24:=⟨ZK⟩
instance :Sz prog 24 1:=⟨ZK⟩
instance :Und prog 24 (.slice 153):=⟨underlying24⟩
theorem Vd:cB prog 24 153 1=true:=ZK
theorem Xf:bZ prog 24 153 1 16=true:=ZK
instance :One prog 25:=⟨ZK⟩
instance :Sz prog 25 1:=⟨ZK⟩
instance :Und prog 25 (.slice 155):=⟨underlying25⟩
theorem Vb:cB prog 25 155 7=true:=ZK
theorem Xe:bZ prog 25 155 7 80=true:=ZK
instance :One prog 26:=⟨ZK⟩
instance :Sz prog 26 1:=⟨ZK⟩
instance :Und prog 26 (.slice 157):=⟨underlying26⟩
theorem Va:cB prog 26 157 6=true:=ZK
theorem Xd:bZ prog 26 157 6 56=true:=ZK
instance :One prog 27:=⟨ZK⟩
instance :Sz prog 27 1:=⟨ZK⟩
instance :Und prog 27 (.slice 159):=⟨underlying27⟩
theorem U9:cB prog 27 159 3=true:=ZK
theorem Xc:bZ prog 27 159 3 32=true:=ZK
instance is29:Sz prog 29 6:=⟨ZK⟩
theorem OX:zeroCells prog 29=some [.slice none 0 0,.slice none 0 0,.slice none 0 0,.slice none 0 0,.slice none 0 0,.slice none 0 0]:=ZK
instance :Sr prog 29 6:=⟨⟨_,underlying29⟩,is29.q⟩
instance :FO prog 29 0 0:=⟨ZK⟩
instance :FO prog 29 1 1:=⟨ZK⟩
instance :FO prog 29 2 2:=⟨ZK⟩
instance :FO prog 29 3 3:=⟨ZK⟩
instance :FO prog 29 4 4:=⟨ZK⟩
instance :FO prog 29 5 5:=⟨ZK⟩
instance :One prog 30:=⟨ZK⟩
instance :Und prog 30 (.slice 74):=⟨underlying30⟩
theorem U8:cB prog 30 74 3=true:=ZK
theorem WZ:bZ prog 30 74 3 24=true:=ZK
instance io31:One prog 31:=⟨ZK⟩
instance :Sz prog 31 1:=⟨ZK⟩
instance iu31:Und prog 31 (.slice 57):=⟨underlying31⟩
theorem Gf:cB prog 31 57 6=true:=ZK
theorem Dk:bZ prog 31 57 6 72=true:=ZK
instance is37:Sz prog 37 9:=⟨ZK⟩
theorem IR:zeroCells prog 37=some [.slice none 0 0,.slice none 0 0,.slice none 0 0,.slice none 0 0,.slice none 0 0,.slice none 0 0,.slice none 0 0,ZU 0,.slice none 0 0]:=ZK
instance :Sr prog 37 9:=⟨⟨_,underlying37⟩,is37.q⟩
instance :FO prog 37 0 0:=⟨ZK⟩
instance :FO prog 37 1 6:=⟨ZK⟩
instance :FO prog 37 2 7:=⟨ZK⟩
instance :FO prog 37 3 8:=⟨ZK⟩
instance :One prog 38:=⟨ZK⟩
instance :Sz prog 38 1:=⟨ZK⟩
theorem Wt:zeroCells prog 38=some [.nilFunc]:=ZK
instance :One prog 39:=⟨ZK⟩
instance is39:Sz prog 39 1:=⟨ZK⟩
instance :Und prog 39 (.slice 68):=⟨underlying39⟩
theorem Gd:cB prog 39 68 4=true:=ZK
theorem AL:bZ prog 39 68 4 48=true:=ZK
instance io40:One prog 40:=⟨ZK⟩
instance is40:Sz prog 40 1:=⟨ZK⟩
instance :Und prog 40 (.slice 66):=⟨underlying40⟩
theorem Ws:zeroCells prog 40=some [.slice none 0 0]:=ZK
theorem Qp:cB prog 40 66 1=true:=ZK
theorem Qg:bZ prog 40 66 1 24=true:=ZK
instance :One prog 41:=⟨ZK⟩
instance :Sz prog 41 1:=⟨ZK⟩
instance :Und prog 41 (.int .i64):=⟨underlying41⟩
instance :One prog 44:=⟨ZK⟩
instance is44:Sz prog 44 1:=⟨ZK⟩
instance :Und prog 44 (.slice 87):=⟨underlying44⟩
theorem Wq:zeroCells prog 44=some [.slice none 0 0]:=ZK
theorem TD:cB prog 44 87 2=true:=ZK
theorem WY:bZ prog 44 87 2 16=true:=ZK
instance is57:Sz prog 57 6:=⟨ZK⟩
theorem BC:zeroCells prog 57=some [ZU 0,ZU 0,ZU 0,ZU 0,.string ByteArray.empty,.slice none 0 0]:=ZK
instance :Sr prog 57 6:=⟨⟨_,underlying57⟩,is57.q⟩
instance :FO prog 57 0 0:=⟨ZK⟩
instance :FO prog 57 1 1:=⟨ZK⟩
instance :FO prog 57 2 2:=⟨ZK⟩
instance if57_3:FO prog 57 3 3:=⟨ZK⟩
instance if57_4:FO prog 57 4 4:=⟨ZK⟩
instance :FO prog 57 5 5:=⟨ZK⟩
instance io66:One prog 66:=⟨ZK⟩
instance is66:Sz prog 66 1:=⟨ZK⟩
instance :Und prog 66 (.slice 3):=⟨underlying66⟩
theorem Wo:zeroCells prog 66=some [.slice none 0 0]:=ZK
theorem kC:cB prog 66 3 1=true:=ZK
theorem ji:bZ prog 66 3 1 8=true:=ZK
theorem KQ:(prog.info? 66).bind (·.zero)=some (.slice none 0 0):=ZK
instance is68:Sz prog 68 4:=⟨ZK⟩
theorem tX:zeroCells prog 68=some [ZU 0,ZU 0,ZU 0,.slice none 0 0]:=ZK
instance :Sr prog 68 4:=⟨⟨_,underlying68⟩,is68.q⟩
instance :FO prog 68 0 0:=⟨ZK⟩
instance :FO prog 68 1 1:=⟨ZK⟩
instance :FO prog 68 2 2:=⟨ZK⟩
instance :FO prog 68 3 3:=⟨ZK⟩
instance :One prog 70:=⟨ZK⟩
instance is74:Sz prog 74 3:=⟨ZK⟩
theorem RF:zeroCells prog 74=some [ZU 0,ZU 0,ZU 0]:=ZK
instance :Sr prog 74 3:=⟨⟨_,underlying74⟩,is74.q⟩
instance :FO prog 74 0 0:=⟨ZK⟩
instance if74_1:FO prog 74 1 1:=⟨ZK⟩
instance if74_2:FO prog 74 2 2:=⟨ZK⟩
instance is87:Sz prog 87 2:=⟨ZK⟩
theorem Uk:zeroCells prog 87=some [ZU 0,ZU 0]:=ZK
instance :Sr prog 87 2:=⟨⟨_,underlying87⟩,is87.q⟩
instance :One prog 89:=⟨ZK⟩
instance :Sz prog 91 10:=⟨ZK⟩
instance :FO prog 91 0 0:=⟨ZK⟩
instance :FO prog 91 1 1:=⟨ZK⟩
instance :FO prog 91 2 7:=⟨ZK⟩
instance :FO prog 91 3 8:=⟨ZK⟩
instance if91_4:FO prog 91 4 9:=⟨ZK⟩
instance :Sz prog 93 12:=⟨ZK⟩
instance if93_0:FO prog 93 0 0:=⟨ZK⟩
instance if93_1:FO prog 93 1 10:=⟨ZK⟩
instance :FO prog 93 2 11:=⟨ZK⟩
instance :Und prog 94 (.slice 163):=⟨underlying94⟩
theorem DD:cB prog 94 163 3=true:=ZK
theorem AJ:bZ prog 94 163 3 24=true:=ZK
instance is101:Sz prog 101 3:=⟨ZK⟩
theorem qw:zeroCells prog 101=some [.slice none 0 0,.slice none 0 0,ZU 0]:=ZK
instance :Sr prog 101 3:=⟨⟨_,underlying101⟩,is101.q⟩
instance :FO prog 101 0 0:=⟨ZK⟩
instance if101_1:FO prog 101 1 1:=⟨ZK⟩
instance :FO prog 101 2 2:=⟨ZK⟩
instance :One prog 104:=⟨ZK⟩
instance :Sz prog 104 1:=⟨ZK⟩
instance :Sz prog 123 12:=⟨ZK⟩
instance :Und prog 123 (.array 12 3):=⟨underlying123⟩
instance is124:Sz prog 124 144:=⟨ZK⟩
instance :Und prog 124 (.array 12 123):=⟨underlying124⟩
theorem G5:zeroCells prog 124=some [ZU 0,ZU 0,ZU 0,ZU 0,ZU 0,ZU 0,ZU 0,ZU 0,ZU 0,ZU 0,ZU 0,ZU 0,ZU 0,ZU 0,ZU 0,ZU 0,ZU 0,ZU 0,ZU 0,ZU 0,ZU 0,ZU 0,ZU 0,ZU 0,ZU 0,ZU 0,ZU 0,ZU 0,ZU 0,ZU 0,ZU 0,ZU 0,ZU 0,ZU 0,ZU 0,ZU 0,ZU 0,ZU 0,ZU 0,ZU 0,ZU 0,ZU 0,ZU 0,ZU 0,ZU 0,ZU 0,ZU 0,ZU 0,ZU 0,ZU 0,ZU 0,ZU 0,ZU 0,ZU 0,ZU 0,ZU 0,ZU 0,ZU 0,ZU 0,ZU 0,ZU 0,ZU 0,ZU 0,ZU 0,ZU 0,ZU 0,ZU 0,ZU 0,ZU 0,ZU 0,ZU 0,ZU 0,ZU 0,ZU 0,ZU 0,ZU 0,ZU 0,ZU 0,ZU 0,ZU 0,ZU 0,ZU 0,ZU 0,ZU 0,ZU 0,ZU 0,ZU 0,ZU 0,ZU 0,ZU 0,ZU 0,ZU 0,ZU 0,ZU 0,ZU 0,ZU 0,ZU 0,ZU 0,ZU 0,ZU 0,ZU 0,ZU 0,ZU 0,ZU 0,ZU 0,ZU 0,ZU 0,ZU 0,ZU 0,ZU 0,ZU 0,ZU 0,ZU 0,ZU 0,ZU 0,ZU 0,ZU 0,ZU 0,ZU 0,ZU 0,ZU 0,ZU 0,ZU 0,ZU 0,ZU 0,ZU 0,ZU 0,ZU 0,ZU 0,ZU 0,ZU 0,ZU 0,ZU 0,ZU 0,ZU 0,ZU 0,ZU 0,ZU 0,ZU 0,ZU 0,ZU 0,ZU 0,ZU 0,ZU 0]:=ZK
instance :One prog 126:=⟨ZK⟩
instance :Sz prog 126 1:=⟨ZK⟩
instance :One prog 137:=⟨ZK⟩
instance :Sz prog 137 1:=⟨ZK⟩
instance :One prog 141:=⟨ZK⟩
instance is141:Sz prog 141 1:=⟨ZK⟩
instance :Und prog 141 (.slice 39):=⟨underlying141⟩
theorem Us:zeroCells prog 141=some [.slice none 0 0]:=ZK
theorem Nu:cB prog 141 39 1=true:=ZK
theorem U6:bZ prog 141 39 1 24=true:=ZK
instance :One prog 147:=⟨ZK⟩
instance :Sz prog 147 1:=⟨ZK⟩
instance :One prog 149:=⟨ZK⟩
instance is149:Sz prog 149 1:=⟨ZK⟩
instance :Und prog 149 (.slice 4):=⟨underlying149⟩
theorem Ur:zeroCells prog 149=some [.slice none 0 0]:=ZK
theorem Rn:cB prog 149 4 1=true:=ZK
theorem MZ:bZ prog 149 4 1 1=true:=ZK
instance is151:Sz prog 151 3:=⟨ZK⟩
instance :Sr prog 151 3:=⟨⟨_,underlying151⟩,is151.q⟩
instance :FO prog 151 0 0:=⟨ZK⟩
instance :FO prog 151 1 1:=⟨ZK⟩
instance :FO prog 151 2 2:=⟨ZK⟩
instance is153:Sz prog 153 1:=⟨ZK⟩
instance :Sr prog 153 1:=⟨⟨_,underlying153⟩,is153.q⟩
instance :FO prog 153 0 0:=⟨ZK⟩
instance is155:Sz prog 155 7:=⟨ZK⟩
instance :Sr prog 155 7:=⟨⟨_,underlying155⟩,is155.q⟩
instance :FO prog 155 0 0:=⟨ZK⟩
instance :FO prog 155 1 1:=⟨ZK⟩
instance :FO prog 155 2 2:=⟨ZK⟩
instance :FO prog 155 3 3:=⟨ZK⟩
instance :FO prog 155 4 4:=⟨ZK⟩
instance :FO prog 155 5 5:=⟨ZK⟩
instance :FO prog 155 6 6:=⟨ZK⟩
instance is157:Sz prog 157 6:=⟨ZK⟩
theorem KS:zeroCells prog 157=some [.string ByteArray.empty,ZU 0,ZU 0,ZU 0,ZU 0,ZU 0]:=ZK
instance :Sr prog 157 6:=⟨⟨_,underlying157⟩,is157.q⟩
instance :FO prog 157 0 0:=⟨ZK⟩
instance :FO prog 157 1 1:=⟨ZK⟩
instance :FO prog 157 2 2:=⟨ZK⟩
instance :FO prog 157 3 3:=⟨ZK⟩
instance :FO prog 157 4 4:=⟨ZK⟩
instance :FO prog 157 5 5:=⟨ZK⟩
instance is159:Sz prog 159 3:=⟨ZK⟩
instance :Sr prog 159 3:=⟨⟨_,underlying159⟩,is159.q⟩
instance :FO prog 159 0 0:=⟨ZK⟩
instance :FO prog 159 1 1:=⟨ZK⟩
instance :FO prog 159 2 2:=⟨ZK⟩
instance :One prog 160:=⟨ZK⟩
instance :Sz prog 160 1:=⟨ZK⟩
instance :Sz prog 163 3:=⟨ZK⟩
instance :One prog 176:=⟨ZK⟩
instance :Sz prog 176 1:=⟨ZK⟩
instance :Und prog 176 (.int .u64):=⟨underlying176⟩
instance is178:Sz prog 178 1:=⟨ZK⟩
theorem Q0:zeroCells prog 178=some [.nilFunc]:=ZK
instance :FO prog 178 0 0:=⟨ZK⟩
instance is179:Sz prog 179 7:=⟨ZK⟩
instance :Und prog 179 (.array 7 178):=⟨underlying179⟩
theorem Uq:zeroCells prog 179=some [.nilFunc,.nilFunc,.nilFunc,.nilFunc,.nilFunc,.nilFunc,.nilFunc]:=ZK
instance :One prog 181:=⟨ZK⟩
instance is181:Sz prog 181 1:=⟨ZK⟩
theorem Up:zeroCells prog 181=some [.map none]:=ZK
instance :One prog 189:=⟨ZK⟩
instance :Sz prog 189 1:=⟨ZK⟩
instance :One prog 192:=⟨ZK⟩
instance :Sz prog 192 1:=⟨ZK⟩
instance :One prog 195:=⟨ZK⟩
instance :Sz prog 195 1:=⟨ZK⟩
instance :One prog 198:=⟨ZK⟩
instance :Sz prog 198 1:=⟨ZK⟩
instance :One prog 201:=⟨ZK⟩
instance :Sz prog 201 1:=⟨ZK⟩
instance io203:One prog 203:=⟨ZK⟩
instance :Sz prog 205 4:=⟨ZK⟩
instance :FO prog 205 0 0:=⟨ZK⟩
instance :FO prog 205 1 1:=⟨ZK⟩
instance if205_2:FO prog 205 2 2:=⟨ZK⟩
instance if205_3:FO prog 205 3 3:=⟨ZK⟩
instance :One prog 206:=⟨ZK⟩
instance is206:Sz prog 206 1:=⟨ZK⟩
theorem Uo:zeroCells prog 206=some [.map none]:=ZK
instance :One prog 207:=⟨ZK⟩
instance is207:Sz prog 207 1:=⟨ZK⟩
theorem Un:zeroCells prog 207=some [.nilFunc]:=ZK
instance :One prog 215:=⟨ZK⟩
instance :Sz prog 215 1:=⟨ZK⟩
instance :One prog 219:=⟨ZK⟩
instance :Sz prog 219 1:=⟨ZK⟩
instance :Und prog 224 (.slice 255):=⟨underlying224⟩
theorem Ve:cB prog 224 255 3=true:=ZK
instance :One prog 226:=⟨ZK⟩
instance :Und prog 226 (.slice 239):=⟨underlying226⟩
theorem Rm:cB prog 226 239 1=true:=ZK
theorem Rf:bZ prog 226 239 1 16=true:=ZK
instance :One prog 230:=⟨ZK⟩
instance :Sz prog 230 1:=⟨ZK⟩
instance :Und prog 230 (.slice 234):=⟨underlying230⟩
theorem U5:bZ prog 230 234 1 4=true:=ZK
instance :Sz prog 232 3:=⟨ZK⟩
instance :FO prog 232 0 0:=⟨ZK⟩
instance :FO prog 232 1 1:=⟨ZK⟩
instance :FO prog 232 2 2:=⟨ZK⟩
instance :One prog 234:=⟨ZK⟩
instance :Sz prog 234 1:=⟨ZK⟩
instance :Und prog 234 (.int .u32):=⟨underlying234⟩
theorem Uj:(prog.info? 234).bind (·.zero)=some (.int .u32 0):=ZK
instance is236:Sz prog 236 2:=⟨ZK⟩
theorem uG:zeroCells prog 236=some [.int .u32 0,ZU 0]:=ZK
instance :Sr prog 236 2:=⟨⟨_,underlying236⟩,is236.q⟩
instance :FO prog 236 0 0:=⟨ZK⟩
instance :FO prog 236 1 1:=⟨ZK⟩
instance :One prog 239:=⟨ZK⟩
instance is239:Sz prog 239 1:=⟨ZK⟩
instance :One prog 243:=⟨ZK⟩
instance :Sz prog 243 1:=⟨ZK⟩
theorem Um:zeroCells prog 243=some [.map none]:=ZK
instance is255:Sz prog 255 3:=⟨ZK⟩
theorem KR:zeroCells prog 255=some [ZU 0,ZU 0,ZU 0]:=ZK
instance :Sr prog 255 3:=⟨⟨_,underlying255⟩,is255.q⟩
instance if255_0:FO prog 255 0 0:=⟨ZK⟩
instance if255_1:FO prog 255 1 1:=⟨ZK⟩
instance if255_2:FO prog 255 2 2:=⟨ZK⟩
instance :One prog 257:=⟨ZK⟩
instance :Sz prog 257 1:=⟨ZK⟩
instance :Und prog 273 (.int .u64):=⟨underlying273⟩
instance :One prog 274:=⟨ZK⟩
instance :Sz prog 274 1:=⟨ZK⟩
instance :Sz prog 275 3:=⟨ZK⟩
instance :Und prog 275 (.array 3 274):=⟨underlying275⟩
theorem Ul:zeroCells prog 275=some [.nilFunc,.nilFunc,.nilFunc]:=ZK
instance :Sz prog 288 11:=⟨ZK⟩
instance if288_0:FO prog 288 0 0:=⟨ZK⟩
instance :FO prog 288 1 3:=⟨ZK⟩
instance :FO prog 288 2 7:=⟨ZK⟩
instance :Sz prog 290 5:=⟨ZK⟩
instance :FO prog 290 0 0:=⟨ZK⟩
instance :FO prog 290 1 1:=⟨ZK⟩
instance :Sz prog 297 3:=⟨ZK⟩
theorem QZ:zeroCells prog 297=some [ZU 0,ZU 0,ZU 0]:=ZK
instance :FO prog 297 0 0:=⟨ZK⟩
instance :FO prog 297 1 1:=⟨ZK⟩
instance :FO prog 297 2 2:=⟨ZK⟩
instance :Und prog 299 (.slice 236):=⟨underlying299⟩
theorem Rl:cB prog 299 236 2=true:=ZK
theorem U4:bZ prog 299 236 2 16=true:=ZK
instance :Und prog 328 (.slice 5):=⟨underlying328⟩
instance :Sz prog 329 17:=⟨ZK⟩
instance :Und prog 329 (.array 17 9):=⟨underlying329⟩
theorem Xl:enters prog 82=true:=ZK
theorem Xk:enters prog 84=true:=ZK
theorem Xj:enters prog 89=true:=ZK
theorem Xi:enters prog 97=true:=ZK
theorem VG:enters prog 124=true:=ZK
theorem Rt:enters prog 146=true:=ZK
theorem Rs:enters prog 152=true:=ZK
theorem VF:enters prog 154=true:=ZK
theorem VE:enters prog 156=true:=ZK
theorem Rq:enters prog 159=true:=ZK
theorem Rp:enters prog 165=true:=ZK
theorem VD:enters prog 166=true:=ZK
theorem VC:enters prog 167=true:=ZK
theorem VB:enters prog 168=true:=ZK
theorem VA:enters prog 169=true:=ZK
theorem Vz:enters prog 174=true:=ZK
theorem Vy:enters prog 175=true:=ZK
theorem Vx:enters prog 176=true:=ZK
theorem Vw:enters prog 177=true:=ZK
theorem Vv:enters prog 181=true:=ZK
theorem Vu:enters prog 187=true:=ZK
theorem DF:enters prog 189=true:=ZK
theorem Vt:enters prog 191=true:=ZK
theorem Nz:enters prog 205=true:=ZK
theorem Vs:enters prog 206=true:=ZK
theorem Vr:enters prog 207=true:=ZK
theorem Vq:enters prog 244=true:=ZK
theorem Vp:enters prog 245=true:=ZK
theorem Vo:enters prog 248=true:=ZK
theorem Ro:enters prog 250=true:=ZK
theorem Vn:enters prog 252=true:=ZK
theorem Vm:enters prog 258=true:=ZK
theorem Vl:enters prog 260=true:=ZK
theorem Vk:enters prog 261=true:=ZK
theorem Vj:enters prog 262=true:=ZK
theorem Vi:enters prog 273=true:=ZK
theorem Vh:enters prog 279=true:=ZK
theorem Vg:enters prog 282=true:=ZK
end Go.Proofs.YtoleahhfkpkcjaaGreatDoor
namespace Go.Ord
section
abbrev bG:=List (List Int)
def at2 (d:bG) (i j:Nat):Int:=(d.getD i []).getD j (-1)
structure WfD (d:bG):Prop where
 few:d.length<=12
 row: ∀(i:Nat) (r:List Int),d[i]?=some r->r.length=d.length
 diag: ∀i,i<d.length->at2 d i i=0
 rng: ∀i j,i<d.length->j<d.length-> -1<=at2 d i j/\at2 d i j<=1000000
 tri: ∀i k j,i<d.length->k<d.length->j<d.length->at2 d i k≠ -1->at2 d k j≠ -1->at2 d i j≠ -1/\at2 d i j<=at2 d i k+at2 d k j
structure U where
 low:Int
 high:Int
 span:Int
 entry:Nat
 exit:Nat
structure UOK (d:bG) (u:U):Prop where
 e1:u.entry<d.length
 e2:u.exit<d.length
 way:at2 d u.entry u.exit≠ -1
 long:at2 d u.entry u.exit<=u.span
abbrev St:=Option Nat×Int
def far (d:bG):Option Nat->U->Int
 | none,_=>0
 | some x,u=>at2 d x u.entry
def kH (d:bG) (s:St) (u:U):Prop:=far d s.1 u≠ -1/\s.2+far d s.1 u<=u.high
def pp (d:bG) (s:St) (u:U):Int:=max u.low (s.2+far d s.1 u)
def nxt (d:bG) (s:St) (u:U):St:=(some u.exit,pp d s u+u.span)
def Run (d:bG):St->List U->Prop
 | _,[]=>True
 | s,u::us=>kH d s u/\Run d (nxt d s u) us
def fin (d:bG):St->List U->St
 | s,[]=>s
 | s,u::us=>fin d (nxt d s u) us
def yf (d:bG) (s:St):Prop:= ∀x,s.1=some x->x<d.length
variable {d:bG}
theorem Run.append {s:St} {a b:List U}:Run d s (a++b)↔Run d s a/\Run d (fin d s a) b:=by
 induction a generalizing s with
 | nil=>simp [Run,fin]
 | cons u a ih=>simp only [List.cons_append,Run,fin,ih,and_assoc]
theorem Ga {s:St} {a b:List U}:fin d s (a++b)=fin d (fin d s a) b:=by
 induction a generalizing s with
 | nil=>rfl
 | cons u a ih=>simp only [List.cons_append,fin,ih]
def Better (d:bG) (s s':St):Prop:= ∀u,UOK d u->far d s'.1 u≠ -1->far d s.1 u≠ -1/\s.2+far d s.1 u<=s'.2+far d s'.1 u
theorem Better.can {s s':St} (h:Better d s s') {u:U} (hu:UOK d u) (hc:kH d s' u):kH d s u:=by
 obtain ⟨h1,h2⟩:=h u hu hc.1;exact ⟨h1,Int.le_trans h2 hc.2⟩
theorem mh {o:Option Nat} {t t':Int} (h:t<=t'):Better d (o,t) (o,t'):=λu _ hf=>⟨hf,by show t+far d o u<=t'+far d o u; omega⟩
theorem Better.nxt {s s':St} (h:Better d s s') {u:U} (hu:UOK d u) (hc:kH d s' u):Better d (Ord.nxt d s u) (Ord.nxt d s' u):=by
 refine mh ?_;obtain ⟨_,h2⟩:=h u hu hc.1;unfold pp;omega
theorem Better.run {s s':St} (h:Better d s s'): ∀ {us:List U},(∀u∈us,UOK d u)->Run d s' us->Run d s us
 | [],_,_=>trivial
 | u::us,hu,hr=>⟨h.can (hu u ZM) hr.1,(h.nxt (hu u ZM) hr.1).run (λx hx=>hu x (by simp [hx])) hr.2⟩
theorem ru (hd:WfD d) (hi:i<d.length) (hj:j<d.length) (h:at2 d i j≠ -1):0<=at2 d i j:=by
 have:=(hd.rng i j hi hj).1;omega
theorem uK (hd:WfD d) {u:U} (hu:UOK d u):0<=u.span:=by
 have:=ru hd hu.e1 hu.e2 hu.way;have:=hu.long;omega
theorem rq (hd:WfD d) {s:St} (hs:yf d s) {a:U} (ha:UOK d a) (hc:kH d s a):Better d s (nxt d s a):=by
 intro u hu hf;have hf':=hf;have hsp:=uK hd ha;have h0:=ru hd ha.e2 hu.e1 hf';have hlow:s.2+far d s.1 a<=pp d s a:=by unfold pp; omega
 show far d s.1 u≠ -1/\s.2+far d s.1 u<=(pp d s a+a.span)+at2 d a.exit u.entry;obtain ⟨o,t⟩:=s
 cases o with
 | none =>
  simp only [far] at *
  exact ⟨ZL,ZJ⟩
 | some x =>
  have hx:=hs x rfl;have h1:=hc.1;obtain ⟨q1,q2⟩:=hd.tri x a.entry a.exit hx ha.e1 ha.e2 h1 ha.way;obtain ⟨r1,r2⟩:=hd.tri x a.exit u.entry hx ha.e2 hu.e1 q1 hf';have:=ha.long;simp only [far] at *;exact ⟨r1,ZJ⟩
theorem rM {s:St} {a:U} (ha:UOK d a):yf d (nxt d s a):=λx hx=>by
 simp only [nxt,Option.some.injEq] at hx;rw [<-hx]; exact ha.e2
theorem He {s:St} (hs:yf d s): ∀ {us:List U},(∀u∈us,UOK d u)->yf d (fin d s us)
 | [],_=>hs
 | u::us,hu=>He (rM (hu u ZM)) (λx hx=>hu x (by simp [hx]))
theorem Af (hd:WfD d): ∀ {pre:List U} {s:St} {u:U} {post:List U},yf d s->(∀x∈pre++u::post,UOK d x)->Run d s (pre++u::post)->kH d s u
 | [],s,u,post,_,_,hr=>hr.1
 | a::pre,s,u,post,hs,hu,hr=>by
  have ha:=hu a ZM;have h1:=Af hd (rM ha) (λx hx=>hu x (by simp at hx ⊢; exact .inr hx)) hr.2;exact (rq hd hs ha hr.1).can (hu u ZM) h1
theorem BV (hd:WfD d): ∀ {pre:List U} {s:St} {u:U} {post:List U},yf d s->(∀x∈pre++u::post,UOK d x)->Run d s (pre++u::post)->Run d s (pre++post)
 | [],s,u,post,hs,hu,hr=>(rq hd hs (hu u ZM) hr.1).run (λx hx=>hu x (by simp at hx ⊢; exact .inr hx)) hr.2
 | a::pre,s,u,post,hs,hu,hr=>⟨hr.1,BV hd (rM (hu a ZM)) (λx hx=>hu x (by simp at hx ⊢; exact .inr hx)) hr.2⟩
def Fits (d:bG) (u v:U):Prop:=kH d (some u.exit,u.low+u.span) v
theorem wF (hd:WfD d) {s:St} {pre mid post:List U} {u v:U} (hs:yf d s) (hu: ∀x∈pre++u::(mid++v::post),UOK d x) (hr:Run d s (pre++u::(mid++v::post))):Fits d u v:=by
 rw [Run.append] at hr;have h1:=Af hd (rM (hu u ZM)) (λx hx=>hu x (by simp at hx ⊢; exact .inr (.inr hx))) hr.2.2;refine (mh ?_).can (hu v ZM) h1;unfold pp;omega
def Free (d:bG) (s:St) (u:U):Prop:=s.1=some u.entry/\u.exit=u.entry/\u.span=0/\kH d s u/\pp d s u=s.2
theorem M6 {s:St} {u:U} (h:Free d s u):nxt d s u=s:=by
 obtain ⟨h1,h2,h3,_,h5⟩:=h;unfold nxt;rw [h2,h3,h5,<-h1];simp
theorem F5 (hd:WfD d) {pre post:List U} {s:St} {u:U} (hs:yf d s) (hu: ∀x∈pre++u::post,UOK d x) (hf:Free d s u) (hr:Run d s (pre++u::post)):Run d s (u::(pre++post)) :=
 ⟨hf.2.2.2.1,by rw [M6 hf]; exact BV hd hs hu hr⟩
def Feas (d:bG) (s:St) (us:List U):Prop:= ∃l,l.Perm us/\Run d s l
theorem Feas.can (hd:WfD d) {s:St} {us:List U} (hs:yf d s) (hu: ∀x∈us,UOK d x) (h:Feas d s us) {u:U} (hm:u∈us):kH d s u:=by
 obtain ⟨l,hp,hr⟩:=h;obtain ⟨pre,post,rfl⟩:=List.append_of_mem (hp.mem_iff.2 hm);exact Af hd hs (λx hx=>hu x (hp.mem_iff.1 hx)) hr
theorem vg {s s':St} {us:List U} (hb:Better d s s') (hu: ∀x∈us,UOK d x) (h:Feas d s' us):Feas d s us:=by
 obtain ⟨l,hp,hr⟩:=h;exact ⟨l,hp,hb.run (λx hx=>hu x (hp.mem_iff.1 hx)) hr⟩
def left (us:List U) (m:Nat):List U:=(List.range us.length).filterMap λi=>if m.testBit i then none else us[i]?
theorem uo (us:List U):left us 0=us:=by
 unfold left;have: ∀k,k<=us.length->(List.range k).filterMap (λi=>if (0:Nat).testBit i then none else us[i]?)=us.take k:=by
  intro k
  induction k with
  | zero=>intro _; rfl
  | succ k ih =>
   intro hk;rw [List.range_succ,List.filterMap_append,ih ZJ,ZG];simp [ZD (show k<us.length by omega)]
 rw [this us.length ZC,List.take_length]
theorem mem_left {us:List U} {u:U}:u∈left us m↔ ∃i,m.testBit i=false/\us[i]?=some u:=by
 unfold left;rw [List.mem_filterMap];constructor
 .rintro ⟨i,_,h⟩
  split at h
  .cases h
  .rename_i hm; exact ⟨i,by simpa using hm,h⟩
 .rintro ⟨i,hm,h⟩;exact ⟨i,by simpa using (ZE h).1,by simp [hm,h]⟩
theorem kS {us:List U} {u:U} (hm:m.testBit i=false) (hu:us[i]?=some u):(left us m).Perm (u::left us (m ||| 1 <<< i)):=by
 have hi:=(ZE hu).1;have key: ∀k,k<=us.length->((List.range k).filterMap λj=>if m.testBit j then none else us[j]?).Perm ((if i<k then [u] else [])++(List.range k).filterMap λj=>if (m ||| 1 <<< i).testBit j then none else us[j]?):=by
  intro k
  induction k with
  | zero=>intro _; simp
  | succ k ih =>
   intro hk;rw [List.range_succ,List.filterMap_append,List.filterMap_append];have ih:=ih ZJ;have hbit:(m ||| 1 <<< i).testBit k=(m.testBit k||decide (i=k)):=by
    rw [Nat.testBit_or,Nat.one_shiftLeft,Nat.testBit_two_pow]
   by_cases hik:i=k
   .subst hik;simp only [List.filterMap_cons,hm,hu];simp;refine (ih.append_right [u]).trans ?_;simp
   .have e1:(if i<k+1 then [u] else [])=(if i<k then [u] else []:List U):=by
     by_cases h:i<k
     .rw [if_pos h,if_pos ZJ]
     .rw [if_neg h,if_neg ZJ]
    have e2:(m ||| 1 <<< i).testBit k=m.testBit k:=by rw [hbit]; simp [hik]
    rw [e1,<-List.append_assoc];refine (ih.append_right _).trans ?_;simp only [List.filterMap_cons,e2];exact List.Perm.refl _
 have:=key us.length ZC;rw [if_pos hi] at this;exact this
def vV (d:bG) (us:List U) (F:Nat->Nat):Prop:= ∀(i j:Nat) (u v:U),us[i]?=some u->us[j]?=some v->((F i).testBit j=true↔i≠j/\ ¬Fits d u v)
theorem Nn (hd:WfD d) {us:List U} (hu: ∀u∈us,UOK d u) {s:St} (hs:yf d s) (h:Feas d s (left us m)) {u:U} (hm:m.testBit i=false) (hi:us[i]?=some u):kH d s u :=
 h.can hd hs (λx hx=>by obtain ⟨j,_,hj⟩:=mem_left.1 hx; exact hu x (ZF hj)) (mem_left.2 ⟨i,hm,hi⟩)
theorem J2 (hd:WfD d) {us:List U} (hu: ∀u∈us,UOK d u) {s:St} (hs:yf d s) (h:Feas d s (left us m)) {u:U} (hm:m.testBit i=false) (hi:us[i]?=some u) (hf:Free d s u):Feas d (nxt d s u) (left us (m ||| 1 <<< i)):=by
 obtain ⟨l,hp,hr⟩:=h;have hul:=hp.mem_iff.2 (mem_left.2 ⟨i,hm,hi⟩);obtain ⟨pre,post,rfl⟩:=List.append_of_mem hul;have h1:=F5 hd hs (λx hx=>by obtain ⟨j,_,hj⟩:=mem_left.1 (hp.mem_iff.1 hx); exact hu x (ZF hj)) hf hr;refine ⟨pre++post,?_,h1.2⟩;have:=(List.perm_middle.symm.trans hp).trans (kS hm hi);exact List.Perm.cons_inv this
theorem JZ (hd:WfD d) {us:List U} (hu: ∀u∈us,UOK d u) {F:Nat->Nat} (hF:vV d us F) {s:St} (hs:yf d s) (h:Feas d s (left us m)) (hne: ∃i,i<us.length/\m.testBit i=false) :
  ∃ i u,us[i]?=some u/\m.testBit i=false/\(∀j,j<us.length->(F i).testBit j=true->m.testBit j=true)/\Feas d (nxt d s u) (left us (m ||| 1 <<< i)):=by
 obtain ⟨l,hp,hr⟩:=h;have hall: ∀x∈l,UOK d x:=λx hx=>by obtain ⟨j,_,hj⟩:=mem_left.1 (hp.mem_iff.1 hx); exact hu x (ZF hj)
 cases l with
 | nil =>
  obtain ⟨i,hi,hm⟩:=hne;have:=mem_left.2 ⟨i,hm,ZD hi⟩;have:=hp.mem_iff.2 this
  cases this
 | cons u l =>
  obtain ⟨i,hm,hi⟩:=mem_left.1 (hp.mem_iff.1 (List.mem_cons_self ..));have hpl:=List.Perm.cons_inv (hp.trans (kS hm hi));refine ⟨i,u,hi,hm,λj hj hb=> ?_,l,hpl,hr.2⟩
  cases hmj:m.testBit j with
  | true=>rfl
  | false =>
   exfalso;have hv:=ZD hj;obtain ⟨hij,hnf⟩:=(hF i j u us[j] hi hv).1 hb;have hvl:=hpl.mem_iff.2 (mem_left.2 ⟨j,by rw [Nat.testBit_or,Nat.one_shiftLeft,Nat.testBit_two_pow,hmj]; simp [hij],hv⟩);obtain ⟨pre,post,rfl⟩:=List.append_of_mem hvl;exact hnf (wF hd (pre:= []) hs (by simpa using hall) (by simpa using hr))
theorem JY (hd:WfD d) {us:List U} (hu: ∀u∈us,UOK d u) {s:St} (hs:yf d s) (h:Feas d s us) {u v:U} (hi:us[i]?=some u) (hj:us[j]?=some v) (hij:i≠j):Fits d u v\/Fits d v u:=by
 obtain ⟨l,hp,hr⟩:=h;have hall:=λx hx=>hu x (hp.mem_iff.1 hx);have h2: ∃pre mid post,l=pre++u::(mid++v::post)\/l=pre++v::(mid++u::post):=by
  have e1:=kS (m:=0) ZM hi;rw [uo] at e1;have e2:=kS (m:=0 ||| 1 <<< i) (by rw [Nat.testBit_or,Nat.one_shiftLeft,Nat.testBit_two_pow]; simp [hij]) hj;have hl:=hp.trans (e1.trans (e2.cons u));have hul:u∈l:=hl.mem_iff.2 ZM;obtain ⟨pre,post,rfl⟩:=List.append_of_mem hul;have h3:=List.Perm.cons_inv (List.perm_middle.symm.trans hl);have hv:v∈pre++post:=h3.mem_iff.2 ZM;rcases ZH hv with h|h
  .obtain ⟨a,b,rfl⟩:=List.append_of_mem h;exact ⟨a,b,post,.inr ZM⟩
  .obtain ⟨a,b,rfl⟩:=List.append_of_mem h;exact ⟨pre,a,b,.inl ZM⟩
 obtain ⟨pre,mid,post,h|h⟩:=h2
 .subst h; exact .inl (wF hd hs hall hr)
 .subst h; exact .inr (wF hd hs hall hr)
end
section
variable {d:bG}
abbrev UB:=U×Int
def Bef (d:bG) (a c:UB):Prop:=at2 d a.1.exit c.1.entry≠ -1/\a.2+a.1.span+at2 d a.1.exit c.1.entry<=c.2
theorem Bef.trans (e:WfD d) {a b c:UB} (f:UOK d a.1) (hb:UOK d b.1) (j:UOK d c.1) (h1:Bef d a b) (g:Bef d b c):Bef d a c:=by
 obtain ⟨h,k⟩:=e.tri _ _ _ f.e2 hb.e1 hb.e2 h1.1 hb.way;obtain ⟨i,l⟩:=e.tri _ _ _ f.e2 hb.e2 j.e1 h g.1;refine ⟨i,?_⟩;have:=h1.2;have:=g.2;have:=hb.long;omega
theorem rQ: ∀ {l:List UB} {s:St},(∀x∈l,x.1.low<=x.2/\x.2<=x.1.high)->l.Pairwise (Bef d)->(∀x,l.head?=some x->far d s.1 x.1≠ -1/\s.2+far d s.1 x.1<=x.2)->Run d s (l.map (·.1))
 | [],_,_,_,_=>trivial
 | a::l,s,e,c,g=>by
  obtain ⟨h,i⟩:=g a rfl;obtain ⟨j,k⟩:=e a ZM;rw [List.pairwise_cons] at c;refine ⟨⟨h,by show s.2+far d s.1 a.1<=a.1.high; omega⟩,rQ (λx b=>e x (by simp [b])) c.2 λx b=> ?_⟩;have f:=c.1 x (by cases l with|nil=>cases b|cons y l=>simp at b; subst b; simp);refine ⟨f.1,?_⟩;show pp d s a.1+a.1.span+at2 d a.1.exit x.1.entry<=x.2;have:=f.2;have:pp d s a.1<=a.2:=by unfold pp; omega
  omega
open Classical in
theorem qD (D:WfD d) {l:List UB} (o: ∀x∈l,UOK d x.1) (u: ∀x∈l,0<=x.2/\x.1.low<=x.2/\x.2<=x.1.high) (hp:l.Pairwise λa b=>Bef d a b\/Bef d b a):Feas d (none,0) (l.map (·.1)):=by
 have q: ∀l:List UB,(∀x∈l,UOK d x.1)->l.Pairwise (λa b=>Bef d a b\/Bef d b a)-> ∃e:List UB,e.Perm l/\e.Pairwise (Bef d):=by
  intro l
  induction l with
  | nil=>intro _ _; exact ⟨[],List.Perm.refl _,List.Pairwise.nil⟩
  | cons a l v =>
   intro o hp;rw [List.pairwise_cons] at hp;obtain ⟨e,f,h⟩:=v (λx c=>o x (by simp [c])) hp.2;refine ⟨e.takeWhile (λx=>decide (Bef d x a))++a::e.dropWhile (λx=>decide (Bef d x a)),?_,?_⟩
   .refine List.perm_middle.trans ?_;rw [List.takeWhile_append_dropWhile];exact f.cons a
   .have g:e.takeWhile (λx=>decide (Bef d x a))++e.dropWhile (λx=>decide (Bef d x a))=e:=List.takeWhile_append_dropWhile;have i: ∀x∈e,UOK d x.1:=λx c=>o x (by simp [f.mem_iff.1 c]);have r: ∀x∈e,Bef d x a\/Bef d a x:=λx c=>(hp.1 x (f.mem_iff.1 c)).symm;rw [<-g,List.pairwise_append] at h;obtain ⟨w,s,z⟩:=h;have A: ∀x∈e.takeWhile (λx=>decide (Bef d x a)),Bef d x a:=by
     have: ∀(m:List UB),∀x∈m.takeWhile (λx=>decide (Bef d x a)),Bef d x a:=by
      intro m
      induction m with
      | nil=>simp
      | cons y m t =>
       intro x c;rw [List.takeWhile_cons] at c
       split at c
       .rename_i j;rcases List.mem_cons.1 c with rfl|c
        .exact of_decide_eq_true j
        .exact t x c
       .cases c
     exact this e
    have B: ∀x∈e.dropWhile (λx=>decide (Bef d x a)),Bef d a x:=by
     cases k:e.dropWhile (λx=>decide (Bef d x a)) with
     | nil=>simp
     | cons y m =>
      have n: ∀x∈y::m,x∈e:=λx c=>by rw [<-g,k]; simp at c ⊢; exact .inr c
      have j: ¬Bef d y a:=by
       have:=List.head?_dropWhile_not (λx=>decide (Bef d x a)) e;rw [k] at this;simpa using this
      have p:Bef d a y:=(r y (n y ZM)).resolve_left j;rw [k,List.pairwise_cons] at s;intro x c;rcases List.mem_cons.1 c with rfl|c
      .exact p
      .exact p.trans D (o a ZM) (i y (n y ZM)) (i x (n x (by simp [c]))) (s.1 x c)
    rw [List.pairwise_append];refine ⟨w,List.pairwise_cons.2 ⟨B,s⟩,λx c y j=> ?_⟩;rcases List.mem_cons.1 j with rfl|j
    .exact A x c
    .exact z x c y j
 obtain ⟨e,f,h⟩:=q l o hp;refine ⟨e.map (·.1),f.map _,rQ (λx c=>(u x (f.mem_iff.1 c)).2) h λx c=> ?_⟩;have C:x∈l:=f.mem_iff.1 (by cases e with|nil=>cases c|cons y m=>simp at c; subst c; simp);refine ⟨by simp [far],?_⟩;have:=(u x C).1;simp [far];omega
theorem rE (hd:WfD d): ∀ {us:List U} {s:St},yf d s->0<=s.2->(∀u∈us,UOK d u)->(∀u∈us,u.low<=u.high)->Run d s us ->
  ∃ l:List UB,l.map (·.1)=us/\(∀x∈l,0<=x.2/\x.1.low<=x.2/\x.2<=x.1.high/\far d s.1 x.1≠ -1/\s.2+far d s.1 x.1<=x.2)/\l.Pairwise (Bef d)
 | [],s,_,_,_,_,_=>⟨[],rfl,ZM,List.Pairwise.nil⟩
 | u::us,s,hs,h0,hu,hw,hr=>by
  have hok:=hu u ZM;have hsp:=uK hd hok;have hfar:0<=far d s.1 u:=by
   have h1:=hr.1.1;obtain ⟨o,t⟩:=s
   cases o with
   | none=>simp [far]
   | some x=>exact ru hd (hs x rfl) hok.e1 h1
  have hbeg:s.2+far d s.1 u<=pp d s u:=by unfold pp; omega
  obtain ⟨l,h1,h2,h3⟩:=rE hd (rM hok) (by show 0<=pp d s u+u.span; omega) (λx hx=>hu x (by simp [hx])) (λx hx=>hw x (by simp [hx])) hr.2;refine ⟨(u,pp d s u)::l,by simp [h1],?_,List.pairwise_cons.2 ⟨λx hx=> ?_,h3⟩⟩
  .intro x hx;rcases List.mem_cons.1 hx with rfl|hx
   .have h4:=hr.1.2;have h5:=hw u ZM;refine ⟨by show 0<=pp d s u; omega,by show u.low<=pp d s u; unfold pp; omega,by show pp d s u<=u.high; unfold pp; omega,hr.1.1,hbeg⟩
   .obtain ⟨a1,a2,a3,a4,a5⟩:=h2 x hx;have hxu:=hu x.1 (by rw [<-h1]; simp; exact .inr ⟨x.2,hx⟩);obtain ⟨b1,b2⟩:=rq hd hs hok hr.1 x.1 hxu a4;exact ⟨a1,a2,a3,b1,ZJ⟩
  .obtain ⟨a1,a2,a3,a4,a5⟩:=h2 x hx;exact ⟨a4,a5⟩
theorem qx (hd:WfD d) {us:List U} (hu: ∀u∈us,UOK d u) (hw: ∀u∈us,u.low<=u.high) (h:Feas d (none,0) us) :
  ∃ l:List UB,(l.map (·.1)).Perm us/\(∀x∈l,0<=x.2/\x.1.low<=x.2/\x.2<=x.1.high)/\l.Pairwise (Bef d):=by
 obtain ⟨o,hp,hr⟩:=h;obtain ⟨l,h1,h2,h3⟩:=rE hd (λx hx=>by cases hx) (Int.le_refl _) (λu hu'=>hu u (hp.mem_iff.1 hu')) (λu hu'=>hw u (hp.mem_iff.1 hu')) hr;exact ⟨l,by rw [h1]; exact hp,λx hx=>⟨(h2 x hx).1,(h2 x hx).2.1,(h2 x hx).2.2.1⟩,h3⟩
end
section
variable {d:bG}
structure Ev where
 office:Int
 low:Int
 high:Int
 needs:List Int
def kM (e:Ev):Int:=min (max e.low 0) 1000001
def gQ (e:Ev):Int:=max (min e.high 1000000) (-1)
def ny (e:Ev):U:=⟨kM e,gQ e,0,e.office.toNat,e.office.toNat⟩
structure EOK (d:bG) (e:Ev):Prop where
 o1:0<=e.office
 o2:e.office<d.length
theorem wo (a:WfD d) {e:Ev} (h:EOK d e):UOK d (ny e):=by
 have:e.office.toNat<d.length:=by have:=h.o1; have:=h.o2; omega
 exact ⟨this,this,by rw [show at2 d (ny e).entry (ny e).exit=at2 d e.office.toNat e.office.toNat from rfl,a.diag _ this]; decide,by rw [show at2 d (ny e).entry (ny e).exit=at2 d e.office.toNat e.office.toNat from rfl,a.diag _ this]; exact Int.le_refl _⟩
abbrev ET:=Ev×Int
def yI (d:bG) (a b:ET):Prop:=at2 d a.1.office.toNat b.1.office.toNat≠ -1/\at2 d a.1.office.toNat b.1.office.toNat<=b.2-a.2
structure HoldsN (d:bG) (l:List ET):Prop where
 each: ∀x∈l,0<=x.2/\x.2<=1000000/\x.1.low<=x.2/\x.2<=x.1.high
 two:l.Pairwise λa b=>yI d a b\/yI d b a
def Poss (d:bG) (evs:List Ev):Prop:= ∃l:List ET,l.map (·.1)=evs/\HoldsN d l
theorem gY {α:Type} {R:α->α->Prop}: ∀ {l c:List α},l.Perm c->l.Pairwise (λa b=>R a b\/R b a)->c.Pairwise (λa b=>R a b\/R b a):=λd h=>d.pairwise h (λh=>h.symm)
theorem Nl (C:WfD d) {evs:List Ev} (he: ∀e∈evs,EOK d e) {us:List U} (hp:us.Perm (evs.map ny)):Poss d evs↔(∀u∈us,u.low<=u.high)/\Feas d (none,0) us:=by
 constructor
 .rintro ⟨l,rfl,h⟩;have j: ∀x∈l,(ny x.1).low<=x.2/\x.2<=(ny x.1).high:=by
   intro x f;obtain ⟨w,z,K,L⟩:=h.each x f;show kM x.1<=x.2/\x.2<=gQ x.1;unfold kM gQ;omega
  refine ⟨λu p=> ?_,?_⟩
  .have:=hp.mem_iff.1 p;rw [List.map_map,List.mem_map] at this;obtain ⟨x,f,rfl⟩:=this;have:=j x f;show (ny x.1).low<=(ny x.1).high;omega
  .have D:=qD C (l:=l.map λx=>(ny x.1,x.2)) ?_ ?_ ?_
   .obtain ⟨o,w,z⟩:=D;refine ⟨o,?_,z⟩;refine w.trans ?_;rw [List.map_map];refine List.Perm.trans ?_ hp.symm;rw [List.map_map];exact List.Perm.refl _
   .intro x f;rw [List.mem_map] at f;obtain ⟨y,A,rfl⟩:=f;exact wo C (he _ (List.mem_map.2 ⟨y,A,rfl⟩))
   .intro x f;rw [List.mem_map] at f;obtain ⟨y,A,rfl⟩:=f;exact ⟨(h.each y A).1,j y A⟩
   .rw [List.pairwise_map];refine h.two.imp λ{a b} k=> ?_;rcases k with q|q
    .exact .inl ⟨q.1,by show a.2+0+at2 d a.1.office.toNat b.1.office.toNat<=b.2; have:=q.2; omega⟩
    .exact .inr ⟨q.1,by show b.2+0+at2 d b.1.office.toNat a.1.office.toNat<=a.2; have:=q.2; omega⟩
 .rintro ⟨N,D⟩;have p: ∀u∈us,UOK d u:=λu p=>by
   have:=hp.mem_iff.1 p;rw [List.mem_map] at this;obtain ⟨e,f,rfl⟩:=this;exact wo C (he e f)
  obtain ⟨l,w,z,K⟩:=qx C p N D;have E: ∀(evs:List Ev) (l:List UB),(l.map (·.1)).Perm (evs.map ny)->l.Pairwise (λa b=>Bef d a b\/Bef d b a)-> ∃m:List ET,m.map (·.1)=evs/\(m.map λx=>(ny x.1,x.2)).Perm l:=by
   intro evs
   induction evs with
   | nil =>
    intro l B _;have:l= []:=by
     have:=B.length_eq;simp at this;exact this
    subst this
    exact ⟨[],rfl,List.Perm.refl _⟩
   | cons e evs O =>
    intro l B F;have M:ny e∈l.map (·.1):=B.mem_iff.2 ZM;rw [List.mem_map] at M;obtain ⟨x,f,r⟩:=M;obtain ⟨g,c,rfl⟩:=List.append_of_mem f;have L:((g++c).map (·.1)).Perm (evs.map ny):=by
     have q:((g++x::c).map (·.1)).Perm (ny e::(g++c).map (·.1)):=by
      rw [<-r];exact (List.perm_middle (l₁:=g) (l₂:=c)).map (λy:UB=>y.1)
     have R:=q.symm.trans (by simpa using B);exact List.Perm.cons_inv R
    have s:=gY List.perm_middle F;obtain ⟨m,n,i⟩:=O (g++c) L (List.pairwise_cons.1 s).2;refine ⟨(e,x.2)::m,by simp [n],?_⟩;refine List.Perm.trans ?_ List.perm_middle.symm;have:(ny e,x.2)=x:=by rw [<-r]
    rw [List.map_cons];rw [this];exact i.cons x
  have t:l.Pairwise (λa b=>Bef d a b\/Bef d b a):=K.imp λh=> .inl h;obtain ⟨m,n,i⟩:=E evs l (w.trans hp) t;refine ⟨m,n,λx f=> ?_,?_⟩
  .have G:=i.mem_iff.1 (List.mem_map.2 ⟨x,f,rfl⟩);obtain ⟨H,I,J⟩:=z _ G;have I:kM x.1<=x.2:=I;have J:x.2<=gQ x.1:=J;unfold kM at I;unfold gQ at J;refine ⟨H,ZJ,ZJ,ZJ⟩
  .have v:=gY i.symm t;rw [List.pairwise_map] at v;refine v.imp λ{a b} k=> ?_;rcases k with q|q
   .refine .inl ⟨q.1,?_⟩;have:a.2+0+at2 d a.1.office.toNat b.1.office.toNat<=b.2:=q.2;omega
   .refine .inr ⟨q.1,?_⟩;have:b.2+0+at2 d b.1.office.toNat a.1.office.toNat<=a.2:=q.2;omega
theorem Poss.perm {evs evs':List Ev} (h:Poss d evs) (hp:evs.Perm evs'):Poss d evs':=by
 obtain ⟨l,rfl,k⟩:=h;have i: ∀(l:List ET) (evs':List Ev),(l.map (·.1)).Perm evs'-> ∃f:List ET,f.Perm l/\f.map (·.1)=evs':=by
  intro l evs'
  induction evs' generalizing l with
  | nil =>
   intro g;have:l= []:=by have:=g.length_eq; simp at this; exact this
   subst this
   exact ⟨[],List.Perm.refl _,rfl⟩
  | cons e evs' o =>
   intro g;have m:e∈l.map (·.1):=g.mem_iff.2 ZM;rw [List.mem_map] at m;obtain ⟨x,j,rfl⟩:=m;obtain ⟨c,b,rfl⟩:=List.append_of_mem j;have p:((c++b).map (·.1)).Perm evs':=by
    have q:=(List.perm_middle (a:=x) (l₁:=c) (l₂:=b)).map (λy:ET=>y.1);exact List.Perm.cons_inv (a:=x.1) (by simpa using q.symm.trans g)
   obtain ⟨f,r,s⟩:=o (c++b) p;exact ⟨x::f,(r.cons x).trans List.perm_middle.symm,by simp [s]⟩
 obtain ⟨f,n,t⟩:=i l evs' hp;exact ⟨f,t,λx j=>k.each x (n.mem_iff.1 j),gY n.symm k.two⟩
theorem Poss.sub {evs evs':List Ev} (h:Poss d evs) (hs:evs'.Sublist evs):Poss d evs':=by
 obtain ⟨l,rfl,a⟩:=h;obtain ⟨c,b,rfl⟩:=List.sublist_map_iff.1 hs;exact ⟨c,rfl,λx e=>a.each x (b.subset e),a.two.sublist b⟩
end
end Go.Ord
namespace Go.PF
noncomputable def dec (p:Prop):Bool:= @decide p (Classical.propDecidable p)
theorem dec_iff:dec p=true↔p:= @decide_eq_true_iff p (Classical.propDecidable p)
theorem aD (h:p):dec p=true:=dec_iff.2 h
theorem aH (h: ¬p):dec p=false:=by
 cases a:dec p with
 | false=>rfl
 | true=>exact absurd (dec_iff.1 a) h
theorem dJ {q:Prop} (h:p↔q):dec p=dec q:=by rw [show p=q from propext h]
theorem yz [Decidable p]:dec p=decide p:=by
 by_cases h:p
 .rw [aD h]; simp [h]
 .rw [aH h]; simp [h]
theorem nb [Decidable p] (h:(!decide p)=true): ¬p:=by simpa using h
theorem nb' [Decidable p] (h:(!decide p)=false):p:=by simpa using h
theorem WR (h:(!dec p)=true): ¬p:=λa=>by rw [aD a] at h; cases h
theorem UQ (h:(!dec p)=false):p:=dec_iff.1 (by simpa using h)
end Go.PF
namespace Go.Ord
open Go.PF
structure RowOK (d:bG) (i:Nat) (r:List Int):Prop where
 len:r.length=d.length
 diag:r[i]?=some 0
 rng: ∀(j:Nat) (x:Int),r[j]?=some x-> -1<=x/\x<=1000000
def Wd (d:bG) (i k j:Nat):Prop:=at2 d i k≠ -1->at2 d k j≠ -1->at2 d i j≠ -1/\at2 d i j<=at2 d i k+at2 d k j
theorem nR {d:bG} (a:d[i]?=some r) (b:r[j]?=some x):at2 d i j=x:=by
 unfold at2;simp [a,b]
theorem RG {d:bG} (h1:d.length<=12) (b: ∀(i:Nat) (r:List Int),d[i]?=some r->RowOK d i r) (f: ∀i k j,i<d.length->k<d.length->j<d.length->Wd d i k j):WfD d:=by
 refine ⟨h1,λi r a=>(b i r a).len,λi c=> ?_,λi j c g=> ?_,f⟩
 .have a:=ZD c;exact nR a (b i _ a).diag
 .have a:=ZD c;have h:=(b i _ a).len;have e:d[i][j]?=some (d[i][j]'(by omega)):=ZD ZJ;rw [nR a e];exact (b i _ a).rng j _ e
theorem WfD.rowOK {d:bG} (h:WfD d) (b:d[i]?=some r):RowOK d i r:=by
 have c:=(ZE b).1;have e:=h.row i r b;refine ⟨e,?_,λj x a=> ?_⟩
 .have a:r[i]?=some (r[i]'(by omega)):=ZD ZJ;have:=h.diag i c;rw [nR b a] at this;rw [a,this]
 .have f:=(ZE a).1;have:=h.rng i j c ZJ;rw [nR b a] at this;exact this
def insS (n:Int):List Int->List Int
 | []=> [n]
 | x::l=>if x<n then x::insS n l else if x=n then x::l else n::x::l
def Inc (l:List Int):Prop:=l.Pairwise (· < ·)
theorem mem_insS {n x:Int}: ∀ {l:List Int},x∈insS n l↔x=n\/x∈l
 | []=>by simp [insS]
 | y::l=>by
  unfold insS
  split
  .rw [List.mem_cons,mem_insS,List.mem_cons];constructor
   .rintro (h|h|h)
    .exact .inr (.inl h)
    .exact .inl h
    .exact .inr (.inr h)
   .rintro (h|h|h)
    .exact .inr (.inl h)
    .exact .inl h
    .exact .inr (.inr h)
  .split
   .rename_i h; subst h; simp
   .simp
theorem Inc.insS {n:Int}: ∀ {l:List Int},Inc l->Inc (insS n l)
 | [],_=>List.pairwise_singleton _ _
 | y::l,h=>by
  have b:=List.pairwise_cons.1 h;unfold Ord.insS
  split
  .refine List.pairwise_cons.2 ⟨λx a=> ?_,Inc.insS b.2⟩;rcases mem_insS.1 a with rfl|a
   .assumption
   .exact b.1 x a
  .split
   .exact h
   .refine List.pairwise_cons.2 ⟨λx a=> ?_,h⟩;rcases List.mem_cons.1 a with rfl|a
    .omega
    .have:=b.1 x a; omega
def insAll (a:List Int) (l:List Int):List Int:=l.foldl (λacc n=>insS n acc) a
theorem qN {x:Int}: ∀ {l a:List Int},x∈insAll a l↔x∈a\/x∈l
 | [],a=>by simp [insAll]
 | n::l,a=>by
  have:insAll a (n::l)=insAll (insS n a) l:=rfl;rw [this,qN,mem_insS,List.mem_cons];constructor
  .rintro ((h|h)|h)
   .exact .inr (.inl h)
   .exact .inl h
   .exact .inr (.inr h)
  .rintro (h|h|h)
   .exact .inl (.inr h)
   .exact .inl (.inl h)
   .exact .inr h
theorem Inc.insAll: ∀ {l a:List Int},Inc a->Inc (insAll a l)
 | [],_,h=>h
 | n::l,a,h=>Inc.insAll (l:=l) (Inc.insS h)
def bV (l:List Ev):List Int:=l.flatMap (·.needs)
def aV (l:List Ev):List Int:=insAll [] (bV l)
theorem mem_recsS {l:List Ev}:x∈aV l↔ ∃e∈l,x∈e.needs:=by
 unfold aV bV;rw [qN,List.mem_flatMap];simp
theorem jH (l:List Ev):Inc (aV l):=Inc.insAll List.Pairwise.nil
theorem Inc.nodup {l:List Int} (h:Inc l):l.Nodup:=h.imp λh e=>ZJ
theorem nM: ∀ {a b:List Int},Inc a->Inc b->(∀x,x∈a↔x∈b)->a=b
 | [],[],_,_,_=>rfl
 | [],y::b,_,_,h=>by have:=(h y).2 ZM; cases this
 | x::a,[],_,_,h=>by have:=(h x).1 ZM; cases this
 | x::a,y::b,j,k,h=>by
  have c:=List.pairwise_cons.1 j;have d:=List.pairwise_cons.1 k;have i:x=y:=by
   rcases List.mem_cons.1 ((h x).1 ZM) with e|l
   .exact e
   .rcases List.mem_cons.1 ((h y).2 ZM) with e|m
    .exact e.symm
    .have:=c.1 y m;have:=d.1 x l;omega
  subst i;rw [nM c.2 d.2 (λz=> ?_)];constructor
  .intro g;rcases List.mem_cons.1 ((h z).1 (by simp [g])) with e|f
   . have:=c.1 z g; omega
   .exact f
  .intro g;rcases List.mem_cons.1 ((h z).2 (by simp [g])) with e|f
   . have:=d.1 z g; omega
   .exact f
theorem dY {α:Type} [DecidableEq α]: ∀ {l k:List α},l.Nodup->(∀x∈l,x∈k)->l.length<=k.length
 | [],_,_,_=>ZB
 | x::l,k,f,b=>by
  have a:=List.nodup_cons.1 f;have c:=b x ZM;have:=dY (k:=k.erase x) a.2 (λy d=>(List.mem_erase_of_ne (λe=>a.1 (by rw [<-e]; exact d))).2 (b y (by simp [d])));rw [List.length_erase_of_mem c] at this;have:=List.length_pos_of_mem c;simp only [List.length_cons];omega
theorem FX {xs:List Int} (hn:xs.Nodup):Inc (xs.mergeSort λx y=>decide (x<=y)):=by
 have d:(xs.mergeSort λx y=>decide (x<=y)).Pairwise (λx y=>decide (x<=y)=true):=List.pairwise_mergeSort (λa b c d e=>by simp at *; omega) (λa b=>ZO) xs;have e:(xs.mergeSort λx y=>decide (x<=y)).Nodup:=(List.mergeSort_perm xs _).nodup_iff.2 hn;refine List.Pairwise.imp₂ (λa b f g=> ?_) d e;have:a<=b:=by simpa using f
 omega
def bY:List Int->Nat->List (List Int)
 | _,0=> [[]]
 | [],_+1=> []
 | x::l,k+1=>(bY l k).map (x:: ·)++bY l (k+1)
theorem mem_setsS: ∀ {l:List Int} {k:Nat} {s:List Int},s∈bY l k↔s.Sublist l/\s.length=k
 | l,0,s=>by
  have:bY l 0= [[]]:=by cases l<;>rfl
  rw [this,List.mem_singleton];constructor
  .rintro rfl; exact ⟨List.nil_sublist _,rfl⟩
  .intro h; exact List.eq_nil_of_length_eq_zero h.2
 | [],k+1,s=>by
  simp [bY];rintro rfl
  simp
 | x::l,k+1,s=>by
  simp only [bY,List.mem_append,List.mem_map];constructor
  .rintro (⟨t,c,rfl⟩|d)
   .obtain ⟨b,a⟩:=mem_setsS.1 c;exact ⟨b.cons_cons x,by simp [a]⟩
   .obtain ⟨b,a⟩:=mem_setsS.1 d;exact ⟨b.cons x,a⟩
  .rintro ⟨b,a⟩
   cases b with
   | cons _ h=>exact .inr (mem_setsS.2 ⟨h,a⟩)
   | cons_cons _ h=>exact .inl ⟨_,mem_setsS.2 ⟨h,by simpa using a⟩,rfl⟩
theorem oF: ∀(l:List Int) (k:Nat),l.length<k->bY l k= []
 | l,0,h=>by omega
 | [],k+1,_=>rfl
 | x::l,k+1,h=>by
  simp only [bY];rw [oF l k (by simp at h; omega),oF l (k+1) (by simp at h; omega)];rfl
theorem pO: ∀(l:List Int) (k:Nat),(bY l k).length<=(l.length+1) ^ k
 | l,0=>by cases l<;>simp [bY]
 | [],k+1=>by simp [bY]
 | x::l,k+1=>by
  have c:=pO l k;have a:=pO l (k+1);have b:(l.length+1) ^ k<=(l.length+2) ^ k:=Nat.pow_le_pow_left ZJ k;simp only [bY,List.length_append,List.length_map,List.length_cons];rw [Nat.pow_succ] at a ⊢;have d:(l.length+1) ^ k*(l.length+1)<=(l.length+2) ^ k*(l.length+1):=Nat.mul_le_mul_right _ b;have e:(l.length+1+1) ^ k*(l.length+1+1)=(l.length+2) ^ k*(l.length+1)+(l.length+2) ^ k:=by rw [show l.length+1+1=l.length+2 from rfl,show l.length+2=(l.length+1)+1 from rfl,Nat.mul_add,Nat.mul_one]
  omega
def qK (l:List Int) (k i:Nat):List (List Int):=match l[i]? with
 | some x=>(bY (l.drop (i+1)) k).map (x:: ·)
 | none=> []
def iC (l:List Int) (k n:Nat):List (List Int):=(List.range n).flatMap (qK l k)
theorem lV (l:List Int) (k n:Nat):iC l k (n+1)=iC l k n++qK l k n:=by
 simp [iC,List.range_succ]
theorem uL (x:Int) (l:List Int) (k:Nat): ∀n,iC (x::l) k (n+1)=(bY l k).map (x:: ·)++iC l k n
 | 0=>by simp [iC,qK]
 | n+1=>by
  rw [lV,uL x l k n,lV l k n,List.append_assoc];rfl
theorem wD: ∀(l:List Int) (k:Nat),bY l (k+1)=iC l k l.length
 | [],k=>rfl
 | x::l,k=>by
  show (bY l k).map (x:: ·)++bY l (k+1)=iC (x::l) k (l.length+1);rw [uL,wD l k]
theorem qy {l:List Int} {k:Nat}: ∀(n m:Nat),l.length<=n+k->iC l k (n+m)=iC l k n
 | n,0,_=>rfl
 | n,m+1,h=>by
  rw [<-Nat.add_assoc,lV,qy n m h];have:qK l k (n+m)= []:=by
   unfold qK
   split
   .rw [oF _ _ (by rw [List.length_drop]; rename_i a; have:=(ZE a).1; omega)];rfl
   .rfl
  rw [this,List.append_nil]
end Go.Ord
namespace Go.Ord
abbrev Ln:=Nat×Nat×Int
inductive ReachL (L:List Ln):Nat->Nat->Prop
 | refl (a:Nat):ReachL L a a
 | step {a b c:Nat} {t:Int}:ReachL L a b->(b,c,t)∈L->ReachL L a c
theorem ReachL.trans {L:List Ln} {c:Nat} (h:ReachL L a b) (k:ReachL L b c):ReachL L a c:=by
 induction k with
 | refl=>exact h
 | step _ d e=>exact e.step d
theorem ReachL.one {L:List Ln} {t:Int} (h:(a,b,t)∈L):ReachL L a b:=(ReachL.refl a).step h
abbrev dL:=List Int
def g12 (M:dL) (a b:Nat):Int:=M.getD (12*a+b) (-1)
def eF (M:dL) (a b:Nat) (t:Int):dL:=if g12 M a b= -1\/t<g12 M a b then M.set (12*a+b) t else M
theorem Cg (M:dL) (a b:Nat) (t:Int):(eF M a b t).length=M.length:=by
 unfold eF
 split<;>simp
theorem uq {M:dL} {t:Int} (hl:M.length=144) (e:a<12) (hb:b<12) (x y:Nat) (f:x<12) (g:y<12) :
  g12 (eF M a b t) x y=if x=a/\y=b/\(g12 M a b= -1\/t<g12 M a b) then t else g12 M x y:=by
 unfold eF;by_cases c:g12 M a b= -1\/t<g12 M a b
 .rw [if_pos c];unfold g12;rw [List.getD_eq_getElem?_getD,List.getElem?_set];by_cases d:x=a/\y=b
  .obtain ⟨rfl,rfl⟩:=d;rw [if_pos rfl,if_pos ZJ,if_pos ⟨rfl,rfl,c⟩];rfl
  .rw [if_neg ZJ,if_neg (λh=>d ⟨h.1,h.2.1⟩),List.getD_eq_getElem?_getD]
 .rw [if_neg c,if_neg (λh=>c h.2.2)]
def init12:dL:=(List.range 144).map λi=>if i / 12=i%12 then 0 else -1
theorem xm (e:a<12) (hb:b<12):g12 init12 a b=if a=b then 0 else -1:=by
 unfold g12 init12;rw [List.getD_eq_getElem?_getD,List.getElem?_map,List.getElem?_range ZJ];show (if (12*a+b) / 12=(12*a+b)%12 then (0:Int) else -1)=_;have c:(12*a+b) / 12=a:=ZJ;have d:(12*a+b)%12=b:=ZJ;rw [c,d]
def iw (M:dL) (L:List Ln):dL:=L.foldl (λM l=>eF M l.1 l.2.1 l.2.2) M
def ol (o a:Nat) (M:dL) (b:Nat):dL:=if g12 M a o≠ -1/\g12 M o b≠ -1 then eF M a b (g12 M a o+g12 M o b) else M
def jD (o:Nat) (M:dL) (a:Nat) (n:Nat):dL:=(List.range n).foldl (ol o a) M
def iV (M:dL) (o n:Nat):dL:=(List.range n).foldl (λM a=>jD o M a 12) M
def iM (M:dL) (n:Nat):dL:=(List.range n).foldl (λM o=>iV M o 12) M
def eH (L:List Ln):dL:=iM (iw init12 L) 12
theorem E8 (o:Nat) (M:dL) (a n:Nat):jD o M a (n+1)=ol o a (jD o M a n) n:=by simp only [jD,List.range_succ,List.foldl_append,List.foldl_cons,List.foldl_nil]
theorem Fe (M:dL) (o n:Nat):iV M o (n+1)=jD o (iV M o n) n 12:=by simp only [iV,List.range_succ,List.foldl_append,List.foldl_cons,List.foldl_nil]
theorem GH (M:dL) (n:Nat):iM M (n+1)=iV (iM M n) n 12:=by simp only [iM,List.range_succ,List.foldl_append,List.foldl_cons,List.foldl_nil]
theorem E7 (o:Nat) (M:dL) (a:Nat):jD o M a 0=M:=by simp [jD]
theorem E9 (M:dL) (o:Nat):iV M o 0=M:=by simp [iV]
theorem GG (M:dL):iM M 0=M:=by simp [iM]
theorem Aw (M:dL) (L:List Ln) (l:Ln):iw M (L++ [l])=eF (iw M L) l.1 l.2.1 l.2.2:=by simp [iw]
def mR (k:Nat):dL:=(List.range 144).map λi=>if i<k then (if i / 12=i%12 then 0 else -1) else 0
theorem zo (k:Nat):(mR k).length=144:=by simp [mR]
theorem JR:mR 144=init12:=by
 refine List.map_congr_left λi a=> ?_;rw [if_pos (List.mem_range.1 a)]
theorem FV:mR 0=List.replicate 144 0:=by
 unfold mR;apply List.ext_getElem?;intro i;rw [List.getElem?_map,List.getElem?_replicate];by_cases a:i<144
 .rw [List.getElem?_range a,if_pos a]; rfl
 .rw [List.getElem?_eq_none (by simpa using a),if_neg a]; rfl
theorem FW {k:Nat} (d:k<144):mR (k+1)=if k / 12=k%12 then mR k else (mR k).set k (-1):=by
 apply List.ext_getElem?;intro i;have e: ∀m,(mR m)[i]?=if i<144 then some (if i<m then (if i / 12=i%12 then 0 else -1) else 0) else none:=λm=>by
  unfold mR;rw [List.getElem?_map];by_cases b:i<144
  .rw [List.getElem?_range b,if_pos b]; rfl
  .rw [List.getElem?_eq_none (by simpa using b),if_neg b]; rfl
 by_cases c:k / 12=k%12
 .rw [if_pos c,e,e];by_cases a:i=k
  .subst a;rw [if_pos d,if_pos d,if_pos ZJ,if_pos c,if_neg ZJ]
  .by_cases h:i<k
   .rw [if_pos (show i<k+1 by omega),if_pos h]
   .rw [if_neg (show¬i<k+1 by omega),if_neg h]
 .rw [if_neg c,List.getElem?_set,e,e];by_cases a:k=i
  .subst a;rw [if_pos rfl,if_pos d,if_pos ZJ,if_neg c,if_pos (by rw [zo]; exact d)]
  .rw [if_neg a];by_cases h:i<k
   .rw [if_pos (show i<k+1 by omega),if_pos h]
   .rw [if_neg (show¬i<k+1 by omega),if_neg h]
structure T12 (L:List Ln) (B:Int) (M:dL):Prop where
 len:M.length=144
 diag: ∀a,a<12->g12 M a a=0
 rng: ∀a b,a<12->b<12-> -1<=g12 M a b/\g12 M a b<=B
 sound: ∀a b,a<12->b<12->g12 M a b≠ -1->ReachL L a b
theorem T12.more {L:List Ln} {B':Int} {M:dL} (h:T12 L B M) (hb:B<=B'):T12 L B' M:=⟨h.len,h.diag,λa b c d=>⟨(h.rng a b c d).1,Int.le_trans (h.rng a b c d).2 hb⟩,h.sound⟩
def Le12 (M M':dL):Prop:= ∀a b,a<12->b<12->g12 M a b≠ -1->g12 M' a b≠ -1
theorem Le12.refl (M:dL):Le12 M M:=λ_ _ _ _ h=>h
theorem Le12.trans {a b c:dL} (h:Le12 a b) (k:Le12 b c):Le12 a c:=λx y d e f=>k x y d e (h x y d e f)
theorem xP (L:List Ln):T12 L 0 init12:=by
 refine ⟨by simp [init12],λa c=>by rw [xm c c,if_pos rfl],λa b c d=> ?_,λa b c d h=> ?_⟩
 .rw [xm c d]; split<;>omega
 .rw [xm c d] at h;by_cases e:a=b
  .subst e; exact .refl _
  .rw [if_neg e] at h; exact absurd rfl h
theorem T12.relax {L:List Ln} {M:dL} (h:T12 L B M) {t:Int} (j:a<12) (hb:b<12) (m:0<=t) (k:t<=B) (l:ReachL L a b):T12 L B (eF M a b t)/\Le12 M (eF M a b t)/\g12 (eF M a b t) a b≠ -1:=by
 have g:=λx y c d=>uq (t:=t) h.len j hb x y c d;refine ⟨⟨by rw [Cg]; exact h.len,λx c=> ?_,λx y c d=> ?_,λx y c d i=> ?_⟩,λx y c d i=> ?_,?_⟩
 .rw [g x x c c]
  split
  .rename_i f;obtain ⟨rfl,rfl,f⟩:=f;rw [h.diag _ c] at f;omega
  .exact h.diag x c
 .rw [g x y c d]
  split
  .omega
  .exact h.rng x y c d
 .rw [g x y c d] at i
  split at i
  .rename_i f;obtain ⟨rfl,rfl,_⟩:=f;exact l
  .exact h.sound x y c d i
 .rw [g x y c d]
  split
  .omega
  .exact i
 .rw [g a b j hb]
  split
  .omega
  .rename_i f;intro e;exact f ⟨rfl,rfl,.inl e⟩
def LnOK (n:Nat) (L:List Ln):Prop:= ∀l∈L,l.1<n/\l.2.1<n/\1<=l.2.2/\l.2.2<=5000
theorem nL {L:List Ln}: ∀(K:List Ln) (M:dL),(∀l∈K,l∈L)->LnOK 12 L->T12 L 5000 M->T12 L 5000 (iw M K)/\Le12 M (iw M K)/\ ∀l∈K,g12 (iw M K) l.1 l.2.1≠ -1
 | [],M,_,_,h=>⟨h,Le12.refl _,λl a=>by cases a⟩
 | l::K,M,c,d,h=>by
  have a:=d l (c l ZM);obtain ⟨f,g,i⟩:=h.relax a.1 a.2.1 ZJ a.2.2.2 (ReachL.one (c l ZM));obtain ⟨j,e,k⟩:=nL K (eF M l.1 l.2.1 l.2.2) (λx b=>c x (by simp [b])) d f;refine ⟨j,g.trans e,λx b=> ?_⟩;rcases List.mem_cons.1 b with rfl|b
  .exact e _ _ a.1 a.2.1 i
  .exact k x b
structure R12 (L:List Ln) (B:Int) (o:Nat) (M0 M:dL):Prop where
 t:T12 L (2*B) M
 col: ∀x,x<12->g12 M x o=g12 M0 x o/\g12 M o x=g12 M0 o x
theorem QN {L:List Ln} {M0 M:dL} (g:T12 L B M0) (h:R12 L B o M0 M) (d:o<12) (e:a<12) (hb:b<12):R12 L B o M0 (ol o a M b)/\Le12 M (ol o a M b)/\(g12 M0 a o≠ -1->g12 M0 o b≠ -1->g12 (ol o a M b) a b≠ -1):=by
 unfold ol;by_cases f:g12 M a o≠ -1/\g12 M o b≠ -1
 .rw [if_pos f];have j:=(h.col a e).1;have k:=(h.col b hb).2;have u:=g.rng a o e d;have v:=g.rng o b d hb;rw [j,k] at f ⊢;obtain ⟨m,n,p⟩:=h.t.relax (t:=g12 M0 a o+g12 M0 o b) e hb ZJ ZJ ((g.sound a o e d f.1).trans (g.sound o b d hb f.2));refine ⟨⟨m,λx i=> ?_⟩,n,λ_ _=>p⟩;have l:=g.diag o d;constructor
  .rw [uq h.t.len e hb x o i d,<-(h.col x i).1];by_cases c:x=a/\o=b/\(g12 M a b= -1\/g12 M0 a o+g12 M0 o b<g12 M a b)
   .obtain ⟨rfl,rfl,c⟩:=c;omega
   .rw [if_neg c]
  .rw [uq h.t.len e hb o x d i,<-(h.col x i).2];by_cases c:o=a/\x=b/\(g12 M a b= -1\/g12 M0 a o+g12 M0 o b<g12 M a b)
   .obtain ⟨rfl,rfl,c⟩:=c;omega
   .rw [if_neg c]
 .rw [if_neg f];refine ⟨h,Le12.refl _,λr s=>absurd ⟨?_,?_⟩ f⟩
  .rw [(h.col a e).1]; exact r
  .rw [(h.col b hb).2]; exact s
theorem R12.row {L:List Ln} {M0 M:dL} (t:T12 L B M0) (u:o<12) (i:a<12) (h:R12 L B o M0 M): ∀(n:Nat),n<=12->R12 L B o M0 (jD o M a n)/\Le12 M (jD o M a n)/\ ∀b,b<n->g12 M0 a o≠ -1->g12 M0 o b≠ -1->g12 (jD o M a n) a b≠ -1:=by
 intro n
 induction n with
 | zero =>
  intro _
  exact ⟨h,Le12.refl _,λb j=>ZJ⟩
 | succ n k =>
  intro v;obtain ⟨l,m,p⟩:=k ZJ;have e:jD o M a (n+1)=ol o a (jD o M a n) n:=by simp only [jD,List.range_succ,List.foldl_append,List.foldl_cons,List.foldl_nil]
  rw [e];obtain ⟨q,d,r⟩:=QN (b:=n) t l u i ZJ;refine ⟨q,m.trans d,λb j f g=> ?_⟩;rcases ZI b n with c|s
  .exact d a b i ZJ (p b c f g)
  .have:b=n:=ZJ;subst this;exact r f g
theorem IG {L:List Ln} {M0:dL} (v:0<=B) (i:T12 L B M0) (t:o<12): ∀(n:Nat),n<=12->R12 L B o M0 (iV M0 o n)/\Le12 M0 (iV M0 o n)/\ ∀(a b:Nat),a<n->b<12->g12 M0 a o≠ -1->g12 M0 o b≠ -1->g12 (iV M0 o n) a b≠ -1:=by
 intro n
 induction n with
 | zero =>
  intro _
  exact ⟨⟨i.more ZJ,λx _=>⟨rfl,rfl⟩⟩,Le12.refl _,λa b j=>ZJ⟩
 | succ n k =>
  intro u;obtain ⟨l,m,p⟩:=k ZJ;have e:iV M0 o (n+1)=jD o (iV M0 o n) n 12:=by simp only [iV,List.range_succ,List.foldl_append,List.foldl_cons,List.foldl_nil]
  rw [e];obtain ⟨q,f,r⟩:=R12.row i t (ZJ:n<12) l 12 ZJ;refine ⟨q,m.trans f,λa b j c g h=> ?_⟩;rcases ZI a n with d|s
  .exact f a b ZJ c (p a b d c g h)
  .have:a=n:=ZJ;subst this;exact r b c g h
inductive WayL (L:List Ln) (k:Nat):Nat->Nat->Prop
 | refl (a:Nat):WayL L k a a
 | one {a b:Nat} {t:Int}:(a,b,t)∈L->WayL L k a b
 | step {a b c:Nat} {t:Int}:WayL L k a b->b<k->(b,c,t)∈L->WayL L k a c
theorem K6 {L:List Ln} (e:LnOK n L) (h:ReachL L a b):WayL L n a b:=by
 induction h with
 | refl=>exact .refl _
 | step _ c d=>exact d.step (e _ c).1 c
theorem EM {L:List Ln} {k:Nat} (h:WayL L (k+1) a b):WayL L k a b\/(WayL L k a k/\WayL L k k b):=by
 induction h with
 | refl=>exact .inl (.refl _)
 | one d=>exact .inl (.one d)
 | @step b c t l m d g =>
  rcases ZI b k with e|i
  .rcases g with h|⟨f,j⟩
   .exact .inl (h.step e d)
   .exact .inr ⟨f,j.step e d⟩
  .have:b=k:=ZJ;subst this;rcases g with h|⟨f,_⟩
   .exact .inr ⟨h,.one d⟩
   .exact .inr ⟨f,.one d⟩
theorem Ec {L:List Ln} {M:dL} (j:T12 L 5000 M) (f: ∀l∈L,g12 M l.1 l.2.1≠ -1) (x:LnOK 12 L): ∀(n:Nat),n<=12->T12 L (5000*2 ^ n) (iM M n)/\ ∀(a b:Nat),a<12->b<12->WayL L n a b->g12 (iM M n) a b≠ -1:=by
 intro n
 induction n with
 | zero =>
  intro _;rw [show iM M 0=M from rfl];refine ⟨j.more ZJ,λa b c d g=> ?_⟩
  cases g with
  | refl =>
   rw [j.diag a c]
   decide
  | one k=>exact f _ k
  | step _ h _=>omega
 | succ n m =>
  intro w;obtain ⟨o,i⟩:=m ZJ;have e:iM M (n+1)=iV (iM M n) n 12:=by simp only [iM,List.range_succ,List.foldl_append,List.foldl_cons,List.foldl_nil]
  rw [e];have p:(0:Int)<=5000*2 ^ n:=Int.mul_nonneg ZL (Int.pow_nonneg ZL);obtain ⟨q,r,s⟩:=IG p o (ZJ:n<12) 12 ZJ;refine ⟨q.t.more (by rw [Int.pow_succ]; omega),λa b c d g=> ?_⟩;rcases EM g with h|⟨u,v⟩
  .exact r a b c d (i a b c d h)
  .exact s a b c d (i a n c ZJ u) (i n b ZJ d v)
theorem Lg {L:List Ln} (d:LnOK 12 L) (f:o<12) (m:a<12) (hb:b<=12):T12 L 40960000 (jD o (iV (iM (iw init12 L) o) o a) a b):=by
 obtain ⟨g,p,i⟩:=nL L init12 (λ_ h=>h) d ((xP L).more ZL);obtain ⟨c,_⟩:=Ec g i d o ZJ;have j:(0:Int)<=5000*2 ^ o:=Int.mul_nonneg ZL (Int.pow_nonneg ZL);obtain ⟨k,_,_⟩:=IG j c f a ZJ;obtain ⟨l,_,_⟩:=R12.row c f m k b hb;refine l.t.more ?_;have:(2:Int) ^ o<=2 ^ 12:=by
  have:=Nat.pow_le_pow_right (n:=2) ZL (show o<=12 by omega)
  exact_mod_cast this
 omega
theorem FJ {L:List Ln} (a:LnOK 12 L) (K:List Ln) (hs: ∀l∈K,l∈L):T12 L 5000 (iw init12 K):=(nL K init12 hs a ((xP L).more ZL)).1
theorem nI {L:List Ln} (c:LnOK 12 L):T12 L 20480000 (eH L)/\ ∀a b,a<12->b<12->(g12 (eH L) a b= -1↔ ¬ReachL L a b):=by
 obtain ⟨g,m,i⟩:=nL L init12 (λ_ h=>h) c ((xP L).more ZL);obtain ⟨d,j⟩:=Ec g i c 12 ZJ;refine ⟨d,λa b e f=>⟨λh k=>j a b e f (K6 c k) h,λl=>Classical.byContradiction λh=>l (d.sound a b e f h)⟩⟩
def gB (r:List Int) (b:Nat):Int:=r.getD b (-1)
def wI (r:List Int) (l:Ln):List Int:=if 0<=gB r l.1/\(gB r l.2.1<0\/gB r l.1+l.2.2<gB r l.2.1) then r.set l.2.1 (gB r l.1+l.2.2) else r
def gZ (r:List Int) (L:List Ln):List Int:=L.foldl wI r
def jg (L:List Ln) (r:List Int):Nat->List Int
 | 0=>r
 | k+1=>gZ (jg L r k) L
def eU (n a:Nat):List Int:=(List.replicate n (-1:Int)).set a 0
def oL (L:List Ln) (n a:Nat):List Int:=jg L (eU n a) n
theorem M5 (a:i<r.length) (b:Nat):gB (r.set i x) b=if b=i then x else gB r b:=by
 unfold gB;rw [List.getD_eq_getElem?_getD,List.getElem?_set];by_cases h:i=b
 .subst h;rw [if_pos rfl,if_pos a,if_pos rfl];rfl
 .rw [if_neg h,if_neg (λe=>h e.symm),List.getD_eq_getElem?_getD]
structure RB (L:List Ln) (n a:Nat) (B:Int) (r:List Int):Prop where
 len:r.length=n
 own:gB r a=0
 rng: ∀b,-1<=gB r b/\gB r b<=B
 sound: ∀b,b<n->0<=gB r b->ReachL L a b
def Ya (r s:List Int):Prop:= ∀b,0<=gB r b->0<=gB s b
theorem RB.start (L:List Ln) (d:a<n):RB L n a 0 (eU n a):=by
 have c: ∀b,gB (eU n a) b=if b=a then 0 else -1:=λb=>by
  unfold eU;rw [M5 (by simpa using d)]
  split
  .rfl
  .unfold gB;rw [List.getD_eq_getElem?_getD,List.getElem?_replicate]
   split<;>rfl
 refine ⟨by simp [eU],by rw [c,if_pos rfl],λb=>by rw [c]; split<;>omega,λb _ h=> ?_⟩;rw [c] at h;by_cases e:b=a
 .subst e; exact .refl _
 . omega
theorem RB.rlx {L:List Ln} (h:RB L n a B r) (k:0<=B) {l:Ln} (hl:l∈L) (h1:l.1<n) (j:l.2.1<n) (m:1<=l.2.2/\l.2.2<=5000):RB L n a (B+5000) (wI r l)/\Ya r (wI r l)/\(0<=gB r l.1->0<=gB (wI r l) l.2.1):=by
 unfold wI;by_cases f:0<=gB r l.1/\(gB r l.2.1<0\/gB r l.1+l.2.2<gB r l.2.1)
 .rw [if_pos f];have d:=λb=>M5 (x:=gB r l.1+l.2.2) (by rw [h.len]; exact j:l.2.1<r.length) b;have i:=h.rng l.1;refine ⟨⟨by simp [h.len],?_,λb=> ?_,λb g c=> ?_⟩,λb g=> ?_,λ_=> ?_⟩
  .rw [d]
   split
   .rename_i e;rw [<-e] at f;have:=h.own;omega
   .exact h.own
  .rw [d];have:=h.rng b
   split<;>omega
  .rw [d] at c
   split at c
   .rename_i e;subst e;exact (h.sound l.1 h1 f.1).step hl
   .exact h.sound b g c
  .rw [d]
   split<;>omega
  .rw [d,if_pos rfl];omega
 .rw [if_neg f];exact ⟨⟨h.len,h.own,λb=>by have:=h.rng b; omega,h.sound⟩,λb g=>g,λh1=>ZJ⟩
theorem RB.lines {L:List Ln} {n a:Nat} (k:LnOK n L): ∀(K:List Ln) (B:Int) (r:List Int),(∀l∈K,l∈L)->0<=B->RB L n a B r->RB L n a (B+5000*K.length) (gZ r K)/\Ya r (gZ r K)/\ ∀l∈K,0<=gB r l.1->0<=gB (gZ r K) l.2.1
 | [],B,r,_,_,h=>⟨by simpa [gZ] using h,λ_ h=>h,λl c=>by cases c⟩
 | l::K,B,r,g,m,h=>by
  have c:=k l (g l ZM);obtain ⟨o,i,p⟩:=h.rlx m (g l ZM) c.1 c.2.1 c.2.2;obtain ⟨f,j,q⟩:=RB.lines k K (B+5000) (wI r l) (λx d=>g x (by simp [d])) ZJ o;refine ⟨⟨f.len,f.own,λb=> ?_,f.sound⟩,λb s=>j b (i b s),λx d e=> ?_⟩
  .have:=f.rng b;show -1<=gB (gZ (wI r l) K) b/\gB (gZ (wI r l) K) b<=_;simp only [List.length_cons];omega
  .rcases List.mem_cons.1 d with rfl|d
   .exact j _ (p e)
   .exact q x d (i _ e)
theorem vT {L:List Ln} {n a:Nat} (d:LnOK n L) (f:a<n): ∀k:Nat,RB L n a (5000*(k*L.length:Nat)) (jg L (eU n a) k)
 | 0=>by simpa [jg] using RB.start L f
 | k+1=>by
  have h:=vT d f k;obtain ⟨c,_,_⟩:=RB.lines d L _ _ (λ_ h=>h) ZJ h;refine ⟨c.len,c.own,λb=> ?_,c.sound⟩;have:=c.rng b;show -1<=gB (gZ _ L) b/\gB (gZ _ L) b<=_;have e:(k+1)*L.length=k*L.length+L.length:=Nat.succ_mul _ _;omega
def NH (n:Nat) (r:List Int):Nat:=((List.range n).filter λb=>decide (0<=gB r b)).length
theorem Qu (n:Nat) (r:List Int):NH n r<=n:=by
 unfold NH;have:=List.length_filter_le (λb=>decide (0<=gB r b)) (List.range n);simpa using this
theorem qC {α:Type} {p q:α->Bool}: ∀ {l:List α},(∀x∈l,p x=true->q x=true)->(∃x∈l,q x=true/\p x=false)->(l.filter p).length<(l.filter q).length
 | [],_,h=>by obtain ⟨x,a,_⟩:=h; cases a
 | y::l,h,e=>by
  have i:(l.filter p).length<=(l.filter q).length:=by
   clear e
   induction l with
   | nil=>simp
   | cons z l b =>
    have b:=b λx a=>h x (by simp at a ⊢; rcases a with h|h<;>simp [h]);have c:=h z ZM;rw [List.filter_cons,List.filter_cons]
    split
    .rename_i d;rw [if_pos (c d)];simpa using b
    .split<;>simp<;>omega
  obtain ⟨x,a,f,g⟩:=e;rw [List.filter_cons,List.filter_cons];rcases List.mem_cons.1 a with rfl|a
  .rw [if_pos f,if_neg (by rw [g]; simp)];simp;omega
  .have b:=qC (λz c=>h z (by simp [c])) ⟨x,a,f,g⟩;have j:=h y ZM
   split
   .rename_i d;rw [if_pos (j d)];simpa using b
   .split<;>simp<;>omega
def IP (L:List Ln) (r:List Int):Prop:= ∀l∈L,0<=gB r l.1->0<=gB r l.2.1
theorem uO {L:List Ln} {n a:Nat} (g:LnOK n L) (j:a<n): ∀k:Nat,IP L (jg L (eU n a) k)\/k+1<=NH n (jg L (eU n a) k)
 | 0=>by
  right;have h:=(RB.start L j).own;have:a∈(List.range n).filter λb=>decide (0<=gB (eU n a) b):=List.mem_filter.2 ⟨List.mem_range.2 j,by rw [h]; rfl⟩
  exact List.length_pos_of_mem this
 | k+1=>by
  have h:=vT g j k;obtain ⟨_,s,t⟩:=RB.lines g L _ _ (λ_ h=>h) ZJ h;by_cases p: ∀b,b<n->0<=gB (gZ (jg L (eU n a) k) L) b->0<=gB (jg L (eU n a) k) b
  .left;intro l q d;have:=g l q;exact t l q (p l.1 this.1 d)
  .have m: ∃b,b<n/\0<=gB (gZ (jg L (eU n a) k) L) b/\ ¬0<=gB (jg L (eU n a) k) b:=Classical.byContradiction λu=>p λb i d=>Classical.byContradiction λh=>u ⟨b,i,d,h⟩;obtain ⟨b,i,d,e⟩:=m;have v:NH n (jg L (eU n a) k)<NH n (jg L (eU n a) (k+1)):=qC (λx _ w=>decide_eq_true (s x (of_decide_eq_true w))) ⟨b,List.mem_range.2 i,decide_eq_true d,decide_eq_false e⟩;rcases uO g j k with r|r
   .-- closed before:nothing new
    exfalso;have y:=(RB.lines g L _ _ (λ_ h=>h) ZJ h).1.sound b i d;have f: ∀c,ReachL L a c->0<=gB (jg L (eU n a) k) c:=λc o=>by
     induction o with
     | refl=>rw [h.own]; exact Int.le_refl _
     | step _ z A=>exact r _ z A
    exact e (f b y)
   .right;omega
theorem Hr {L:List Ln} (g:LnOK n L) (i:a<n):(oL L n a).length=n/\(∀b,-1<=gB (oL L n a) b/\gB (oL L n a) b<=5000*(n*L.length:Nat))/\ ∀b,b<n->(gB (oL L n a) b<0↔ ¬ReachL L a b):=by
 have h:=vT g i n;refine ⟨h.len,h.rng,λb j=>⟨λf k=> ?_,λf=>Classical.byContradiction λl=>f (h.sound b j (by show 0<=gB (oL L n a) b; omega))⟩⟩;have m:IP L (oL L n a):=by
  rcases uO g i n with h|h
  .exact h
  .have:=Qu n (jg L (eU n a) n); omega
 have d: ∀c,ReachL L a c->0<=gB (oL L n a) c:=λc e=>by
  induction e with
  | refl=>rw [show gB (oL L n a) a=0 from h.own]; exact Int.le_refl _
  | step _ o p=>exact m _ o p
 have:=d b k;omega
structure Cal where
 zone:Int
 week:List Bool
 hol:List Int
structure Of where
 name:ByteArray
 op:Int
 cal:Int
 pock:Int
 pass:Int
 mins:Int
 codes:List ByteArray
structure Li where
 name:ByteArray
 frm:Int
 to:Int
 at_:Int
 trav:Int
 load:Int
structure Cla where
 name:ByteArray
 cut:Int
 del:Int
structure Net where
 cals:List Cal
 names:List ByteArray
 ops:List ByteArray
 offs:List Of
 lines:List Li
 classes:List Cla
def gH (s:ByteArray) (i:Nat):Nat:=(s.data.getD i 0).toNat
structure CalOK (c:Cal):Prop where
 z1: -720<=c.zone
 z2:c.zone<=840
 wk:c.week.length=7
 few:c.hol.length<=40
 inc: ∀(i:Nat) (x y:Int),c.hol[i]?=some x->c.hol[i+1]?=some y->x<y
def vD (b:Nat):Prop:=97<=b/\b<=122
def yt (b:Nat):Prop:=48<=b/\b<=57
structure NameOK (keys:List ByteArray) (s:ByteArray):Prop where
 n1:1<=s.size
 n2:s.size<=16
 fst:vD (gH s 0)
 all: ∀i,i<s.size->vD (gH s i)\/yt (gH s i)\/gH s i=95
 nokey:s ∉ keys
structure CodeOK (s:ByteArray):Prop where
 n1:1<=s.size
 n2:s.size<=8
 all: ∀i,i<s.size->(65<=gH s i/\gH s i<=90)\/yt (gH s i)
structure OfOK (N:Net) (o:Of):Prop where
 o1:0<=o.op
 o2:o.op<N.ops.length
 c1:0<=o.cal
 c2:o.cal<N.cals.length
 few:o.codes.length<=20
 codes: ∀c∈o.codes,CodeOK c
 p1:2<=o.pock
 p2:o.pock<=64
 q1:1<=o.pass
 q2:o.pass<=4
 m1:1<=o.mins
 m2:o.mins<=240
structure LiOK (N:Net) (l:Li):Prop where
 f1:0<=l.frm
 f2:l.frm<N.offs.length
 t1:0<=l.to
 t2:l.to<N.offs.length
 ne:l.frm≠l.to
 a1:0<=l.at_
 a2:l.at_<=1439
 r1:1<=l.trav
 r2:l.trav<=5000
 d1:1<=l.load
 d2:l.load<=40
structure ClaOK (c:Cla):Prop where
 c1:0<=c.cut
 c2:c.cut<=1439
 d1:0<=c.del
 d2:c.del<=1439
structure KindOK {α:Type} (keys:List ByteArray) (lim:Nat) (names:List ByteArray) (l:List α) (good:α->Prop):Prop where
 few:l.length<=lim
 name: ∀s∈names,NameOK keys s
 nodup:names.Nodup
 good: ∀x∈l,good x
structure ConsOK (keys:List ByteArray) (N:Net):Prop where
 len:N.names.length=N.cals.length
 cals:KindOK keys 6 N.names N.cals CalOK
 ops:KindOK keys 6 N.ops N.ops (λ_=>True)
 offs:KindOK keys 12 (N.offs.map (·.name)) N.offs (OfOK N)
 lines:KindOK keys 40 (N.lines.map (·.name)) N.lines (LiOK N)
 classes:KindOK keys 4 (N.classes.map (·.name)) N.classes ClaOK
def dZ (N:Net):List Ln:=N.lines.map λl=>(l.frm.toNat,l.to.toNat,l.trav)
structure SoundOK (keys:List ByteArray) (N:Net):Prop where
 cons:ConsOK keys N
 all: ∀a b,a<N.offs.length->b<N.offs.length->ReachL (dZ N) a b
theorem ConsOK.ln {keys:List ByteArray} {N:Net} (h:ConsOK keys N):LnOK N.offs.length (dZ N)/\N.offs.length<=12/\(dZ N).length<=40:=by
 refine ⟨λl a=> ?_,h.offs.few,by unfold dZ; rw [List.length_map]; exact h.lines.few⟩;obtain ⟨x,b,rfl⟩:=List.mem_map.1 a;have:=h.lines.good x b;have d:=this.f2;have e:=this.t1;have f:=this.t2;exact ⟨by show x.frm.toNat<_; omega,by show x.to.toNat<_; omega,this.r1,this.r2⟩
theorem LnOK.more {L:List Ln} (h:LnOK n L) (hm:n<=m):LnOK m L:=λl a=>by
 have:=h l a;exact ⟨ZJ,ZJ,this.2.2⟩
def keys11:List ByteArray:= ["calendar", "operator", "office", "line", "class", "zone", "week", "holiday", "pockets", "passes", "minutes", "codes", "at", "travel", "load", "cut", "deliver"].map String.toUTF8
end Go.Ord
namespace Go.PF
open Go.RowKit Go.Ord
def evT:Ty Ev where
 n:=4
 rep:=λF w cs e=> ∃v,cs= [ZU e.office,ZU e.low,ZU e.high,v]/\fF e.office/\fF e.low/\fF e.high/\SL aS F w v e.needs
 len:=λ_ _ _ _ h=>by obtain ⟨v,h,_⟩:=h; rw [h]; rfl
 mono:=λ_ _ _ _ _ hk h=>by obtain ⟨v,h,h1,h2,h3,hs⟩:=h; exact ⟨v,h,h1,h2,h3,hs.mono hk⟩
 wider:=λ_ _ _ _ _ hF h=>by obtain ⟨v,h,h1,h2,h3,hs⟩:=h; exact ⟨v,h,h1,h2,h3,hs.wider hF⟩
theorem pW:Ty.Now evT:=⟨ZL,λF w f e ⟨v,h,a,b,c,d⟩=>⟨v,h,a,b,c,d.now fV⟩⟩
abbrev SE (w:World) (v:Value) (l:List Ev):Prop:=SL evT (λk=>k<w.heap.size) w v l
theorem dW {w':World} {v:Value} {l:List Ev} (h:SE w v l) (hb:ZT w w'):SE w' v l:=h.step pW hb
theorem SE.get {F:Nat->Prop} {ad:Addr} {cap:Nat} {l:List Ev} (h:SL evT F w (.slice (some ad) n cap) l) {e:Ev} (m:l[i]?=some e) :
  ∃ v,(∀j u,[Value.int .i64 e.office,ZU e.low,ZU e.high,v][j]?=some u->w.cell? ((ad.add ((i:Int).toNat*4)).add j)=some u)/\fF e.office/\fF e.low/\fF e.high/\SL aS F w v e.needs:=by
 obtain ⟨a,o,b,_,⟨v,rfl,c,d,f,g⟩,k⟩:=h.at m;cases b;exact ⟨v,k,c,d,f,g⟩
theorem Blk.sub {g:Nat} {cs:List Value} (h:Blk w g t cs) (k:Nat) (ds:List Value) (b:cs.drop k=ds): ∀j v,ds[j]?=some v->w.cell? ((Addr.add ⟨g,0,none⟩ k).add j)=some v:=λj v a=>by
 rw [Addr.add_add];refine h.fld ?_;rw [<-b,List.getElem?_drop] at a;exact a
def YE (F:Nat->Prop) (w:World) (cs:List Value) (e:Ev):Prop:=evT.rep F w cs e
end Go.PF
