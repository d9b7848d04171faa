/- Texts of this claim,joined. -/
import Derived.Test.YtoleahhfkpkcjaaGreatDoorQC
import Derived.Laws.MakeOwn
set_option linter.unusedSimpArgs false
set_option linter.unusedVariables false
set_option maxRecDepth 100000
set_option maxHeartbeats 4000000
variable {t e t' et:Go.TypeId} {w w':Go.World} {n b m g i c N:Nat} {cs vs xs:List Go.Value} {v u zv:Go.Value} {k:Go.IntKind} {ts:Array Go.TypeId} {K:Go.Act->Go.World->Prop} {F:Nat->Prop} {ks:List Nat} {A:Option Go.Addr} {ds:List Go.Deferred} {o:Go.Oper} {af:Array Go.Edge} {name pos:String}
namespace Go.PF
open Go.RowKit
section
def qp (m n:Nat):Nat:=(BitVec.ofNat 32 m &&& ~~~ (BitVec.ofNat 32 n)).toNat
theorem Eb (i:Nat):(qp m n).testBit i=(decide (i<32)&&m.testBit i&& !(n.testBit i)):=by
 unfold qp;rw [<-BitVec.getLsbD,BitVec.getLsbD_and,BitVec.getLsbD_not,BitVec.getLsbD_ofNat,BitVec.getLsbD_ofNat];by_cases h:i<32<;>simp [h]
theorem It (m n:Nat):qp m n<2 ^ 32:=(BitVec.ofNat 32 m &&& ~~~ (BitVec.ofNat 32 n)).isLt
theorem Ks (hm:m<2 ^ 32):qp m n=0↔ ∀i,m.testBit i=true->n.testBit i=true:=by
 constructor
 .intro h i a;have b:=Eb (m:=m) (n:=n) i;rw [h,Nat.zero_testBit,a] at b;have c:i<32:=by
   rcases ZI i 32 with h|h
   .exact h
   .rw [Nat.testBit_lt_two_pow (Nat.lt_of_lt_of_le hm (Nat.pow_le_pow_right ZL h))] at a; cases a
  simpa [c] using b.symm
 .intro h;apply Nat.eq_of_testBit_eq;intro i;rw [Eb,Nat.zero_testBit]
  cases a:m.testBit i with
  | false=>simp
  | true=>simp [h i a]
theorem wrap32 {z:Nat} (h:z<2 ^ 32):IntKind.u32.wrap (z:Int)=z:=by
 rw [IntKind.wrap_u32]; omega
theorem yS (hm:m<2 ^ 32) (hn:n<2 ^ 32):Op.intBits .and .u32 (m:Int) (n:Int)=pure (.int .u32 ((m &&& n:Nat):Int)):=by
 have h:(BitVec.ofNat 32 m &&& BitVec.ofNat 32 n).toNat=m &&& n:=by
  rw [BitVec.toNat_and,BitVec.toNat_ofNat,BitVec.toNat_ofNat,Nat.mod_eq_of_lt hm,Nat.mod_eq_of_lt hn]
 show (pure (Value.int .u32 (IntKind.u32.wrap (((BitVec.ofNat 32 m &&& BitVec.ofNat 32 n).toNat:Nat):Int))):Sem Value)=_;rw [h,wrap32 (Nat.lt_of_le_of_lt Nat.and_le_left hm)]
theorem BU (hm:m<2 ^ 32) (hn:n<2 ^ 32):Op.intBits .or .u32 (m:Int) (n:Int)=pure (.int .u32 ((m ||| n:Nat):Int)):=by
 have h:(BitVec.ofNat 32 m ||| BitVec.ofNat 32 n).toNat=m ||| n:=by
  rw [BitVec.toNat_or,BitVec.toNat_ofNat,BitVec.toNat_ofNat,Nat.mod_eq_of_lt hm,Nat.mod_eq_of_lt hn]
 show (pure (Value.int .u32 (IntKind.u32.wrap (((BitVec.ofNat 32 m ||| BitVec.ofNat 32 n).toNat:Nat):Int))):Sem Value)=_;rw [h,wrap32 (Nat.or_lt_two_pow hm hn)]
theorem wG:Op.intBits .andNot .u32 (m:Int) (n:Int)=pure (.int .u32 ((qp m n:Nat):Int)):=by
 show (pure (Value.int .u32 (IntKind.u32.wrap (((BitVec.ofNat 32 m &&& ~~~ (BitVec.ofNat 32 n)).toNat:Nat):Int))):Sem Value)=_;have:=wrap32 (It m n);unfold qp at this ⊢;rw [this]
section
variable {P:Program} {r:Option Nat} {Q:Exit->Act->World->Prop} {N:Nat} {ds:List Deferred} {ops rest:List Oper} {E:Env} {D:DE} {w:World} {G:Option Bool} {Fin:DE->Prop} {md:Mode}
variable {d:Option Tmp} {ty:TypeId} {pos:String} {af:Array Edge} {gu:Option (Nat×Bool)}
variable {x y z:Operand} {cx cy cz:Option Bool} {ρ:Operand->Value}
def rW (P:Program) (t:TypeId):Bool:=match P.underlying t with
 | none|some (.interface _)=>false
 | _=>true
theorem Xy {m n:Int} (a:ρ x= .int k m) (b:ρ y= .int k n):(execOp ρ ⟨d,.call ⟨.builtin .max,#[x,y],ts⟩,ty,pos,af,gu⟩).run P w= .ok (.value (.int k (max m n))) w:=by 
  have e:(if n>m then n else m)=max m n:=ZJ
  simp [execOp,resolve,invoke,builtin,a,b,run_max_int2,e]
theorem Om {m n:Int}:Val P ⟨d,.call ⟨.builtin .max,#[x,y],ts⟩,ty,pos,af,gu⟩ [x,y] [.int k m,.int k n] (True) (.int k (max m n)) :=
 ⟨rfl,ZP,λ_ ρ w h=>by
  obtain ⟨a,b⟩:=iI h;have e:(if n>m then n else m)=max m n:=ZJ;simp [execOp,resolve,invoke,builtin,a,b,run_max_int2,e]⟩
theorem Xx {m n:Int} (a:ρ x= .int k m) (b:ρ y= .int k n):(execOp ρ ⟨d,.call ⟨.builtin .min,#[x,y],ts⟩,ty,pos,af,gu⟩).run P w= .ok (.value (.int k (min m n))) w:=by 
  have e:(if n<m then n else m)=min m n:=ZJ
  simp [execOp,resolve,invoke,builtin,a,b,run_min_int2,e]
theorem xK {m n:Int}:Val P ⟨d,.call ⟨.builtin .min,#[x,y],ts⟩,ty,pos,af,gu⟩ [x,y] [.int k m,.int k n] (True) (.int k (min m n)) :=
 ⟨rfl,ZP,λ_ ρ w h=>by
  obtain ⟨a,b⟩:=iI h;have e:(if n<m then n else m)=min m n:=ZJ;simp [execOp,resolve,invoke,builtin,a,b,run_min_int2,e]⟩
theorem V8 (a:ρ x= .int .u32 (m:Int)) (b:ρ y= .int .u32 (n:Int)) (hb:m<2 ^ 32/\n<2 ^ 32):(execOp ρ ⟨d,.binOp .and t x y t',ty,pos,af,gu⟩).run P w= .ok (.value (.int .u32 ((m &&& n:Nat):Int))) w:=by simp only [execOp]; rw [a,b,eqGuard_and,binOp_and,yS hb.1 hb.2]; rfl
theorem QI:Val P ⟨d,.binOp .and t x y t',ty,pos,af,gu⟩ [x,y] [.int .u32 (m:Int),.int .u32 (n:Int)] (m<2 ^ 32/\n<2 ^ 32) (.int .u32 ((m &&& n:Nat):Int)) :=
 ⟨rfl,ZQ,λa ρ w h=>by
  obtain ⟨b,c⟩:=iI h;simp only [execOp]; rw [b,c,eqGuard_and,binOp_and,yS a.1 a.2]; rfl⟩
theorem Xu (a:ρ x= .int .u32 (m:Int)) (b:ρ y= .int .u32 (n:Int)) (hb:m<2 ^ 32/\n<2 ^ 32):(execOp ρ ⟨d,.binOp .or t x y t',ty,pos,af,gu⟩).run P w= .ok (.value (.int .u32 ((m ||| n:Nat):Int))) w:=by simp only [execOp]; rw [a,b,eqGuard_or,binOp_or,BU hb.1 hb.2]; rfl
theorem GK:Val P ⟨d,.binOp .or t x y t',ty,pos,af,gu⟩ [x,y] [.int .u32 (m:Int),.int .u32 (n:Int)] (m<2 ^ 32/\n<2 ^ 32) (.int .u32 ((m ||| n:Nat):Int)) :=
 ⟨rfl,ZQ,λa ρ w h=>by
  obtain ⟨b,c⟩:=iI h;simp only [execOp]; rw [b,c,eqGuard_or,binOp_or,BU a.1 a.2]; rfl⟩
theorem TM (a:ρ x= .int .u32 (m:Int)) (b:ρ y= .int .u32 (n:Int)):(execOp ρ ⟨d,.binOp .andNot t x y t',ty,pos,af,gu⟩).run P w= .ok (.value (.int .u32 ((qp m n:Nat):Int))) w:=by simp only [execOp]; rw [a,b,eqGuard_andNot,binOp_andNot,wG]; rfl
theorem xL:Val P ⟨d,.binOp .andNot t x y t',ty,pos,af,gu⟩ [x,y] [.int .u32 (m:Int),.int .u32 (n:Int)] (True) (.int .u32 ((qp m n:Nat):Int)) :=
 ⟨rfl,ZQ,λ_ ρ w h=>by
  obtain ⟨a,b⟩:=iI h;simp only [execOp]; rw [a,b,eqGuard_andNot,binOp_andNot,wG]; rfl⟩
theorem V6 (f:ρ x= .int .u32 1) (g:ρ y= .int k (n:Int)) (hb:n<32):(execOp ρ ⟨d,.binOp .shl t x y t',ty,pos,af,gu⟩).run P w= .ok (.value (.int .u32 ((1 <<< n:Nat):Int))) w:=by 
  have a: ¬((n:Int)<0):=ZJ
  have b:min n IntKind.u32.bits=n:=Nat.min_eq_left (by show n<=32; omega)
  have c:(1:Int)*(2:Int) ^ n=((1 <<< n:Nat):Int):=by rw [Nat.one_shiftLeft,Int.one_mul];  rfl
  have e:(1 <<< n:Nat)<2 ^ 32:=by rw [Nat.one_shiftLeft]; exact Nat.pow_lt_pow_right ZL hb
  simp only [execOp]; rw [f,g,eqGuard_shl,binOp_shl]
  simp only [Op.shift,Int.toNat_natCast,b,c,wrap32 e]; rfl
theorem sS:Val P ⟨d,.binOp .shl t x y t',ty,pos,af,gu⟩ [x,y] [.int .u32 1,.int k (n:Int)] (n<32) (.int .u32 ((1 <<< n:Nat):Int)) :=
 ⟨rfl,ZQ,λa ρ w h=>by
  obtain ⟨b,c⟩:=iI h;have e: ¬((n:Int)<0):=ZJ;have f:min n IntKind.u32.bits=n:=Nat.min_eq_left (by show n<=32; omega);have g:(1:Int)*(2:Int) ^ n=((1 <<< n:Nat):Int):=by rw [Nat.one_shiftLeft,Int.one_mul];  rfl
  have i:(1 <<< n:Nat)<2 ^ 32:=by rw [Nat.one_shiftLeft]; exact Nat.pow_lt_pow_right ZL a
  simp only [execOp]; rw [b,c,eqGuard_shl,binOp_shl];simp only [Op.shift,Int.toNat_natCast,f,g,wrap32 i]; rfl⟩
theorem V5 (f:ρ x= ZU 1) (g:ρ y= .int k (n:Int)) (hb:n<62):(execOp ρ ⟨d,.binOp .shl t x y t',ty,pos,af,gu⟩).run P w= .ok (.value (ZU ((2 ^ n:Nat):Int))) w:=by 
  have a: ¬((n:Int)<0):=ZJ
  have b:min n IntKind.i64.bits=n:=Nat.min_eq_left (by show n<=64; omega)
  have c:(1:Int)*(2:Int) ^ n=((2 ^ n:Nat):Int):=by rw [Int.one_mul];  rfl
  have h:(2 ^ n:Nat)<=2 ^ 61:=Nat.pow_le_pow_right ZL ZJ
  have e:IntKind.i64.wrap ((2 ^ n:Nat):Int)=((2 ^ n:Nat):Int):=eG (by generalize (2 ^ n:Nat)=q at *; omega)
  simp only [execOp]; rw [f,g,eqGuard_shl,binOp_shl]
  simp only [Op.shift,Int.toNat_natCast,b,c,e]; rfl
theorem QG:Val P ⟨d,.binOp .shl t x y t',ty,pos,af,gu⟩ [x,y] [ZU 1,.int k (n:Int)] (n<62) (ZU ((2 ^ n:Nat):Int)) :=
 ⟨rfl,ZQ,λi ρ w h=>by
  obtain ⟨a,b⟩:=iI h;have c: ¬((n:Int)<0):=ZJ;have e:min n IntKind.i64.bits=n:=Nat.min_eq_left (by show n<=64; omega);have f:(1:Int)*(2:Int) ^ n=((2 ^ n:Nat):Int):=by rw [Int.one_mul];  rfl
  have j:(2 ^ n:Nat)<=2 ^ 61:=Nat.pow_le_pow_right ZL ZJ;have g:IntKind.i64.wrap ((2 ^ n:Nat):Int)=((2 ^ n:Nat):Int):=eG (by generalize (2 ^ n:Nat)=q at *; omega);simp only [execOp]; rw [a,b,eqGuard_shl,binOp_shl];simp only [Op.shift,Int.toNat_natCast,e,f,g]; rfl⟩
theorem Ry {vx:Value} (c:rW P t=true) (e:ρ x=vx):(execOp ρ ⟨d,.makeInterface t x,ty,pos,af,gu⟩).run P w= .ok (.value (.iface t vx)) w:=by 
  unfold rW at c
  cases a:P.underlying t with
  | none=>simp [a] at c
  | some b=>cases b<;>first|(simp [a] at c; done)|(simp only [execOp]; rw [e]; simp [Instr.makeInterface,run_underlying a])
theorem uZ {vx:Value} (c:rW P t=true):Val P ⟨d,.makeInterface t x,ty,pos,af,gu⟩ [x] [vx] (True) (.iface t vx) :=
 ⟨rfl,ZQ,λ_ ρ w h=>by
  have e:=wS h;unfold rW at c
  cases a:P.underlying t with
  | none=>simp [a] at c
  | some b=>cases b<;>first|(simp [a] at c; done)|(simp only [execOp]; rw [e]; simp [Instr.makeInterface,run_underlying a])⟩
theorem GI {ad:Addr}  (a:ρ x= .pointer (some ad)):(execOp ρ ⟨d,.nilCheck x,ty,pos,af,gu⟩).run P w= .ok (.value (.pointer (some ad))) w:=by simp only [execOp]; rw [a]; rfl
theorem iT {ad:Addr}:Val P ⟨d,.nilCheck x,ty,pos,af,gu⟩ [x] [.pointer (some ad)] (True) (.pointer (some ad)) :=
 ⟨rfl,ZQ,λ_ ρ w h=>by
  have a:=wS h;simp only [execOp]; rw [a]; rfl⟩
def KF (P:Program) (name:String) (t:TypeId) (k:FuncId):Prop:= ∀(v:Value) (args:Array Value) (w:World),(callMethod (.iface t v) name args).run P w= .ok (.enter k (#[v]++args)) w
theorem sQ {name:String} {t:TypeId} {k:FuncId} {u:Operand} {v:Value} {xs:List Operand} {vs:List Value} {ts:Array TypeId} (he:KF P name t k) (a:ρ u= .iface t v) (b:xs.map ρ=vs) :
  (execOp ρ ⟨d,.call ⟨.invoke u name,xs.toArray,ts⟩,ty,pos,af,gu⟩).run P w= .ok (.enter k (v::vs).toArray) w:=by
 have h:=he v vs.toArray w;have e: #[v]++vs.toArray=(v::vs).toArray:=ZM;simp [execOp,resolve,a,b,Go.invoke,h]
theorem Ky {name:String} {t:TypeId} {k:FuncId} {u:Operand} {v:Value} {cu:Option Bool} {xs:List Operand} {vs:List Value} {ts:Array TypeId} {R:Value->World->Prop} (f:gd ops E gu=some G) (g:aC N d=true) (he:KF P name t k)
  (h:ev E u=some (cu,.iface t v)) (i:aF G->aF cu) (j:Args N ds E G xs vs) (l:aF G->Gives P k (v::vs).toArray w R)
  (next: ∀v b,(aF G->R v b)->(¬aF G->b=w)->TW P r Q N ds ops rest (ins E d G v) b):TW P r Q N ds ops (⟨d,.call ⟨.invoke u name,xs.toArray,ts⟩,ty,pos,af,gu⟩::rest) E w :=
 xN f g rfl (λc a e=>sQ he (e.eval h (i c)) (j a e c)) l next
theorem xM {k:FuncId} {u:Operand} {xs:List Operand} {R:Value->World->Prop} (b:gu=none) (c:aC N d=true) (he:KF P name t k)
  (e:ev E u=some (none,.iface t v)) (f:Args N ds E none xs vs) (g:Gives P k (v::vs).toArray w R)
  (next: ∀v a,R v a->TW P r Q N ds ops rest (ins E d none v) a):TW P r Q N ds ops (⟨d,.call ⟨.invoke u name,xs.toArray,ts⟩,ty,pos,af,gu⟩::rest) E w :=
 Ky (by rw [b]; rfl) c he e ct f (λ_=>g) (λv a h _=>next v a (h trivial))
theorem GM {k:FuncId} {u:Operand} {v y:Value} {cu:Option Bool} {xs:List Operand} (m:gd ops E gu=some G) (g:aC N d=true) (he:KF P name t k)
  (n:ev E u=some (cu,.iface t v)) (p:aF G->aF cu) (q:Args N ds E G xs vs) (s:aF G->Gives P k (v::vs).toArray w λv c=>ZT w c/\v=y)
  (next: ∀c,ZT w c->TW P r Q N ds ops rest (ins E d G y) c):TW P r Q N ds ops (⟨d,.call ⟨.invoke u name,xs.toArray,ts⟩,ty,pos,af,gu⟩::rest) E w:=by
 intro a f;obtain ⟨i,j⟩:=kQ (o:=⟨d,.call ⟨.invoke u name,xs.toArray,ts⟩,ty,pos,af,gu⟩) f m;unfold wpListIn;by_cases b:aF G
 .rw [if_pos (i b)];refine ⟨λ_ _=>trivial,?_⟩;rw [jc rfl,sQ he (f.eval n (p b)) (q a f b)];refine ⟨λh=>by simp [Fence.wide] at h,?_⟩;refine CallsIn.mono (jQ (s b)) ?_;rintro e c ⟨v,rfl,l,rfl⟩;exact next c l _ (f.put g (λ_=>rfl) (λh=>absurd b h))
 .rw [if_neg (by rw [j b]; simp)];exact ⟨λ_ _=>trivial,next w ZA _ (f.put g (λh=>absurd h b) (λ_=>rfl))⟩
theorem Ui {name:String} {t:TypeId} {k:FuncId} {u:Operand} {v:Value} {cu:Option Bool} {xs:List Operand} {vs:List Value} {ts:Array TypeId} (e:Ent) (hm:e.mono) (j:fD ops D gu=some G) (l:aC N d=true) (he:KF P name t k)
  (m:dev D u=some (cu,.ex (.iface t v))) (n:aF G->aF cu) (p:DArgs (Oper.looksAt ops.toArray ⟨d,.call ⟨.invoke u name,xs.toArray,ts⟩,ty,pos,af,gu⟩) N ds D G xs vs)
  (q:aF G-> ∀b,ZT w b->Gives P k (v::vs).toArray b λv c=>ZT b c/\e.sat v c)
  (next:DW P N ds .weak ops w Fin rest (bE D d G e)):DW P N ds .weak ops w Fin (⟨d,.call ⟨.invoke u name,xs.toArray,ts⟩,ty,pos,af,gu⟩::rest) D :=
 tO j l rfl hm (λf a b h g=>⟨_,_,sQ he (g.eval m ZP (n f))
  (p (λt i=>bB (by simp [Op.operands,Call.operands,i])) a b g f),q f b h⟩) next
theorem FH {z:Value} (a:z.cells= #[u]) (n:Nat):(madeCells z.cells (n*1)).toList=List.replicate n u:=by
 unfold madeCells;rw [a];apply List.ext_getElem?;intro i;by_cases h:i<n<;>simp [h,Nat.mod_one]
def QY (P:Program) (t e:TypeId) (u:Value) (bytes:Nat):Prop:= ∃i z,P.underlying t=some (.slice e)/\P.info? e=some i/\i.zero=some z/\z.cells= #[u]/\i.size=1/\i.bytes=bytes
theorem BB {bytes:Nat} (j:bZ P t e 1 bytes=true) (a:(P.info? e).bind (·.zero)=some u) (k:u.cells= #[u]):QY P t e u bytes:=by
 obtain ⟨i,d,f,b,c,g,h,l,m⟩:=lY j;rw [b] at a;simp only [Option.bind_some,c,Option.some.injEq] at a;subst a;exact ⟨i,d,f,b,c,k,g,h⟩
theorem tK {t e:TypeId} {u:Value} {bytes n:Nat} {k k':IntKind} (s:gu=none) (v:aC N d=true) (A:QY P t e u bytes) (B:ev E x=some (none,.int k (n:Int))) (C:ev E y=some (none,.int k' (n:Int))) (hb:bytes*n<=281474976710656) (hn:n<=9223372036854775807)
  (next: ∀g l,Fresh w l g e (List.replicate n u)->TW P r Q N ds ops rest (ins E d none (.slice (some ⟨g,0,none⟩) n n)) l):TW P r Q N ds ops (⟨d,.makeSlice t x y,ty,pos,af,gu⟩::rest) E w:=by
 obtain ⟨i,z,m,o,b,c,p,f⟩:=A;have h:=run_make w t e i z m o b k k' (n:Int) (n:Int) ZJ (Int.le_refl _) (by rw [f,<-Int.natCast_mul]; omega) ZJ;simp only [Int.toNat_natCast,p] at h;have q:madeCells z.cells (n*1)=(List.replicate n u).toArray:=by rw [<-FH c n]
 rw [q] at h;refine ek s v rfl (λa j=> ?_) (next _ _ (gD w e _));simp only [execOp];rw [j.eval B trivial,j.eval C trivial];simp [h]
theorem lM {dd:Nat} {z v:Value} {ty':TypeId} {pos':String} {af':Array Edge} (h:aC N (some dd)=true) (c:zeroCells P t=some [z]) (j:ev ((dd,none,.pointer (some ⟨w.heap.size,0,none⟩))::E) y=some (none,v)) (hs:(P.info? t).map (·.size)=some 1)
  (h1:v.oneCell'=true) (next: ∀g f,Fresh w f g t [v]->TW P r Q N ds ops rest ((dd,none,.pointer (some ⟨g,0,none⟩))::E) f) :
  TW P r Q N ds ops (⟨some dd,.alloc t,ty,pos,af,none⟩::⟨none,.store t (.tmp dd) y,ty',pos',af',none⟩::rest) E w:=by
 refine ek (v:= .pointer (some ⟨w.heap.size,0,none⟩)) (w':=w.alloc (.cells [z].toArray t)) rfl h rfl (λa k=> ?_) ?_
 .unfold zeroCells at c
  cases d:P.info? t with
  | none=>simp [d] at c
  | some i =>
   cases b:i.zero with
   | none=>simp [d,b] at c
   | some l =>
    simp [d,b] at c;simp [execOp,Instr.alloc,zeroValue,typeInfo,d,b,Go.newVar,newRow,<-c]
 .have e:=Blk.new w t [z];refine fu rfl hs (by simp [ev,look,ins]) j (e.cell 0) (e.frozen 0) h1 ?_;refine next _ _ ⟨rfl,?_,?_,e.set 0 v,ZC⟩
  .simp
  .exact (ii w _).setCell ZC _
abbrev But (g:Nat) (w w':World):Prop:=w.grownBy w' (some g)
theorem But.of_below {w w':World} (h:ZT w w'):But g w w':=⟨h.os,h.tape,h.output,h.size,λk a _=>h.block k a⟩
theorem But.trans {g:Nat} {w w' w'':World} (h:But g w w') (a:But g w' w''):But g w w'' :=
 ⟨a.os.trans h.os,a.tape.trans h.tape,a.output.trans h.output,Nat.le_trans h.size a.size,λk b c=>(a.block k (Nat.lt_of_lt_of_le b h.size) c).trans (h.block k b c)⟩
theorem But.step {w w' w'':World} (h:But g w w') (a:ZT w' w''):But g w w'':=h.trans (.of_below a)
theorem But.below {w w1 w2:World} (h:ZT w w1) (b:But g w1 w2) (c:w.heap.size<=g):ZT w w2:=h.grown b h.size (λk a=>by cases a; exact c)
theorem But.blk {k:Nat} {w w':World} (h:But g w w') (a:Blk w k t cs) (b:k≠g):Blk w' k t cs:=(h.block k a.lt (λe=>b (by cases e; rfl))).trans a
theorem But.setCell {g j:Nat} {w:World} {u:Value}:But g w (w.setCell ⟨g,j,none⟩ u):=⟨rfl,rfl,rfl,ZM,λk _ a=>Below.heap_setCell _ _ _ _ (λe=>a (by rw [e]))⟩
theorem mq {t1:TypeId} {j:Nat} (c:gu=none) (hs:(P.info? t).map (·.size)=some 1) (d:ev E x=some (none,.pointer (some (Addr.add ⟨g,0,none⟩ j)))) (e:ev E y=some (none,u)) (b:Blk w g t1 cs) (hj:j<cs.length) (h1:u.oneCell'=true)
  (next: ∀a,Blk a g t1 (cs.set j u)->But g w a->a.heap.size=w.heap.size->TW P r Q N ds ops rest E a):TW P r Q N ds ops (⟨none,.store t x y,ty,pos,af,gu⟩::rest) E w:=by
 refine fu c hs d e (b.fld (ZD hj)) (by rw [dQ]; exact b.frozen _) h1 ?_;rw [dQ];exact next _ (b.set j u) .setCell ZM
end
end
section
structure GKey (P:Program) (kt:TypeId) (κ:Type) where
 enc:κ->Value
 find: ∀(w:World) (k:κ) (m:List (κ×Value)) (es:List MapEntry),es.map (λe=>(e.key,e.val))=m.map (λp=>(enc p.1,p.2)) ->
  ∃ r,(Instr.findKey kt (enc k) es).run P w= .ok r w/\(r=none-> ∀p∈m,p.1≠k)/\ ∀j u,r=some (j,u)->m[j]?=some (k,u)
 bits: ∀a,Instr.sameBits 10000 (enc a) (enc a)=true
 ok: ∀(e:Bool) (a:κ) (w:World),(Instr.checkKey e 10000 kt (enc a)).run P w= .ok () w
 inj: ∀a b,enc a=enc b->a=b
theorem oH {P:Program} {kt:TypeId} {κ:Type} {enc:κ->Value} {eqb:κ->κ->Bool} (c: ∀a b,eqb a b=true↔a=b) (d: ∀(a b:κ) (w:World),(Op.equal kt (enc a) (enc b)).run P w= .ok (eqb a b) w) (w:World) (k:κ): ∀(m:List (κ×Value)) (f:List MapEntry) (i:Nat),f.map (λe=>(e.key,e.val))=m.map (λp=>(enc p.1,p.2)) ->
  ∃ r,(Instr.findAsking kt (enc k) f i).run P w= .ok r w/\(r=none-> ∀p∈m,p.1≠k)/\ ∀j u,r=some (j,u)->i<=j/\m[j-i]?=some (k,u)
 | [],f,i,h=>by
  have:f= []:=by simpa using h
  subst this
  exact ⟨none,by simp [Instr.findAsking],(λ_ p g=>by cases g),(λj u h=>by cases h)⟩
 | (k',o)::m,[],i,h=>by simp at h
 | (k',o)::m,e::f,i,h=>by
  simp only [List.map_cons,List.cons.injEq,Prod.mk.injEq] at h;obtain ⟨⟨q,s⟩,t⟩:=h
  cases l:eqb k k' with
  | true =>
   have v:=(c _ _).1 l;refine ⟨some (i,o),by simp [Instr.findAsking,q,d,l,s],(λh=>by cases h),λj u n=> ?_⟩;obtain ⟨rfl,rfl⟩:=n
   exact ⟨ZC,by simp [v]⟩
  | false =>
   obtain ⟨r,x,y,z⟩:=oH c d w k m f (i+1) t;refine ⟨r,by simp [Instr.findAsking,q,d,l,x],λh p g=> ?_,λj u n=> ?_⟩
   .rcases List.mem_cons.1 g with rfl|g
    .intro e;rw [(c k k').2 e.symm] at l;cases l
    .exact y h p g
   .obtain ⟨B,A⟩:=z j u n;refine ⟨ZJ,?_⟩;rw [show j-i=(j-(i+1))+1 by omega];simpa using A
def TJ (P:Program) (kt:TypeId) {κ:Type} (enc:κ->Value) (eqb:κ->κ->Bool) (kd:TypeDesc) (und:P.underlying kt=some kd) (hiff: ∀a b,eqb a b=true↔a=b) (heq: ∀(a b:κ) (w:World),(Op.equal kt (enc a) (enc b)).run P w= .ok (eqb a b) w)
  (ask: ∀a b,Instr.sameNow kd (enc a) (enc b)=none) (bits: ∀a,Instr.sameBits 10000 (enc a) (enc a)=true) (ok: ∀(e:Bool) (a:κ) (w:World),(Instr.checkKey e 10000 kt (enc a)).run P w= .ok () w) (inj: ∀a b,enc a=enc b->a=b):GKey P kt κ where
 enc:=enc
 find:=λw k m es h=>by
  cases es with
  | nil =>
   have:m= []:=by simpa using h.symm
   subst this
   exact ⟨none,by simp [Instr.findKey,run_underlying und,Instr.findNow],(λ_ p hp=>by cases hp),(λj u h=>by cases h)⟩
  | cons e es =>
   obtain ⟨r,hr,hn,hs⟩:=oH hiff heq w k m (e::es) 0 h
   have hf:Instr.findNow kd (enc k) (e::es) 0=none:=by
    cases m with
    | nil=>simp at h
    | cons p m =>
     simp only [List.map_cons,List.cons.injEq,Prod.mk.injEq] at h
     simp only [Instr.findNow]
     rw [h.1.1,ask]
   exact ⟨r,by simp [Instr.findKey,run_underlying und,hf,hr],hn,λj u hj=>by have:=(hs j u hj).2; simpa using this⟩
 bits:=bits
 ok:=ok
 inj:=inj
def Ms {P:Program} {kt:TypeId} {κ:Type} (K:Key P kt κ) (hiff: ∀a b,K.eqb a b=true↔a=b):GKey P kt κ where
  enc:=K.enc
  find:=λw k m es h=>by
    obtain ⟨r,hr,hg,hn,hs⟩:=lZ K k m es 0 h
    refine ⟨r,by simp [Instr.findKey,run_underlying K.und,hr],λh0 p hp e=> ?_,λj u hj=> ?_⟩
    . have:=hn h0 p hp
      rw [(hiff _ _).2 e.symm] at this
      cases this
    . subst hj
      obtain ⟨j',h1,h2,h3,h4⟩:=hs j u rfl
      have e1:j=j':=ZJ
      subst e1
      have h5:=(hiff _ _).1 (h3 h2)
      rw [ZD h2]
      have key: ∀(m:List (κ×Value)) (es:List MapEntry) (i j:Nat) (u:Value),es.map (λe=>(e.key,e.val))=m.map (λp=>(K.enc p.1,p.2))->Instr.findNow K.kd (K.enc k) es i=some (some (j,u))->i<=j/\ ∃p,m[j-i]?=some p/\p.2=u:=by
        intro m
        induction m with
        | nil => intro es i j u h hf; have : es = [] := by simpa using h
                 subst this; simp [Instr.findNow] at hf
        | cons p m ih =>
          intro es i j u h hf
          cases es with
          | nil=>simp at h
          | cons e es =>
            simp only [List.map_cons,List.cons.injEq,Prod.mk.injEq] at h
            obtain ⟨⟨h1,h2⟩,h3⟩:=h
            simp only [Instr.findNow] at hf
            rw [h1,K.same] at hf
            cases hb:K.eqb k p.1 with
            | true =>
              rw [hb] at hf
              simp only [Option.some.injEq,Prod.mk.injEq] at hf
              obtain ⟨rfl,rfl⟩:=hf
              exact ⟨ZC,p,ZM,h2.symm⟩
            | false =>
              rw [hb] at hf
              obtain ⟨h6,q,h7,h8⟩:=ih es (i+1) j u h3 hf
              refine ⟨ZJ,q,?_,h8⟩
              rw [show j-i=(j-(i+1))+1 by omega]
              simpa using h7
      obtain ⟨_,p,h6,h7⟩:=key m es 0 j u h hr
      rw [Nat.sub_zero,ZD h2] at h6
      simp only [Option.some.injEq] at h6
      have:m[j]=(m[j].1,m[j].2):=rfl
      rw [this,<-h5,h6,h7]
  bits:=λa=>K.bits a a ((hiff a a).2 rfl)
  ok:=K.ok
  inj:=λa b h=>by
    have h1:=K.same a b
    rw [<-h,K.same a a] at h1
    simp only [Option.some.injEq] at h1
    exact (hiff a b).1 (by rw [<-h1]; exact (hiff a a).2 rfl)

section
variable {P:Program} {r:Option Nat} {Q:Exit->Act->World->Prop} {N:Nat} {ds:List Deferred} {ops rest:List Oper} {E:Env} {D:DE} {w:World} {G:Option Bool} {Fin:DE->Prop} {md:Mode}
variable {d:Option Tmp} {ty:TypeId} {pos:String} {af:Array Edge} {gu:Option (Nat×Bool)}
variable {x y z:Operand} {cx cy cz:Option Bool} {ρ:Operand->Value} {κ:Type} {kt:TypeId}
structure MapL (K:GKey P kt κ) (w:World) (b:Nat) (m:List (κ×Value)):Prop where
 is: ∃es clock,w.heap[b]?=some (.map es clock)/\es.toList.map (λe=>(e.key,e.val))=m.map (λp=>(K.enc p.1,p.2))/\(es.toList.map (·.born)).Nodup/\ ∀e∈es.toList,e.born<clock
 once:m.Pairwise λp q=>p.1≠q.1
theorem MapL.lt {K:GKey P kt κ} {m:List (κ×Value)} (h:MapL K w b m):b<w.heap.size:=by
 obtain ⟨⟨c,d,a,_⟩,_⟩:=h; exact (Array.getElem?_eq_some_iff.1 a).1
theorem MapL.kept {K:GKey P kt κ} {m:List (κ×Value)} (h:MapL K w b m) (g:w'.heap[b]?=w.heap[b]?):MapL K w' b m:=by
 obtain ⟨⟨a,c,d,e⟩,f⟩:=h; exact ⟨⟨a,c,g.trans d,e⟩,f⟩
theorem MapL.below {K:GKey P kt κ} {m:List (κ×Value)} (h:MapL K w b m) (hb:ZT w w'):MapL K w' b m:=h.kept (hb.block b h.lt)
theorem MapL.but {K:GKey P kt κ} {m:List (κ×Value)} (h:MapL K w b m) (hb:But g w w') (a:b≠g):MapL K w' b m:=h.kept (hb.block b h.lt (λe=>a (by cases e; rfl)))
theorem eZ (K:GKey P kt κ) (e:gu=none) (f:aC N d=true)
  (next: ∀b c,b=w.heap.size->c.heap.size=b+1->ZT w c->MapL K c b []->TW P r Q N ds ops rest (ins E d none (.map (some b))) c):TW P r Q N ds ops (⟨d,.makeMap t none,ty,pos,af,gu⟩::rest) E w :=
 ek e f rfl (λa g=>by simp [execOp,Instr.makeMap])
  (next _ _ rfl ZM ((ZA).alloc ZC _) ⟨⟨#[],0,heap_alloc_new w _,rfl,ZM,ZM⟩,List.Pairwise.nil⟩)
def Found (m:List (κ×Value)) (k:κ):Option Value->Prop
 | none=> ∀p∈m,p.1≠k
 | some v=>(k,v)∈m
theorem uM (K:GKey P kt κ) (g:P.underlying t=some (.map kt et)) (d:(P.info? et).bind (·.zero)=some zv) {m:List (κ×Value)} (hm:MapL K w b m) (k:κ) (ok:Bool) :
  ∃ o,Found m k o/\(Instr.lookup t (.map (some b)) (K.enc k) ok).run P w= .ok (if ok then .tuple #[o.getD zv,.bool o.isSome] else o.getD zv) w:=by
 obtain ⟨⟨e,h,l,n,_⟩,_⟩:=hm;obtain ⟨q,f,r,s⟩:=K.find w k m e.toList n
 cases c:P.info? et with
 | none=>simp [c] at d
 | some i =>
  simp [c] at d;have a:(getObj b).run P w= .ok (.map e h) w:=by simp [getObj,Sem.run,l]
  cases q with
  | none =>
   refine ⟨none,r rfl,?_⟩
   cases ok<;>simp [Instr.lookup,run_underlying g,a,K.ok,f,zeroValue,typeInfo,c,d]
  | some p =>
   obtain ⟨j,u⟩:=p;refine ⟨some u,ZF (s j u rfl),?_⟩;cases ok<;>simp [Instr.lookup,run_underlying g,a,K.ok,f]
theorem nW (K:GKey P kt κ) {m:List (κ×Value)} (k:κ) {ok:Bool} (g:gu=none) (h:aC N d=true) (i:P.underlying t=some (.map kt et)) (j:(P.info? et).bind (·.zero)=some zv)
  (l:ev E x=some (none,.map (some b))) (n:ev E y=some (none,K.enc k)) (hm:MapL K w b m)
  (next: ∀o,Found m k o->TW P r Q N ds ops rest (ins E d none (if ok then .tuple #[o.getD zv,.bool o.isSome] else o.getD zv)) w):TW P r Q N ds ops (⟨d,.lookup t x y ok,ty,pos,af,gu⟩::rest) E w:=by
 obtain ⟨o,f,c⟩:=uM K i j hm k ok;subst g;exact fZ rfl h rfl (λ_ a e=>by simp only [execOp]; rw [e.eval l trivial,e.eval n trivial]; simp [c]) (next o f)
theorem ik (K:GKey P kt κ) {m:List (κ×Value)} (k:κ) (c:gu=none) (e:aC N d=true) (f:P.underlying t=some (.map kt et)) (g:(P.info? et).bind (·.zero)=some zv)
  (h:ev E x=some (none,.map (some b))) (i:ev E y=some (none,K.enc k)) (hm:MapL K w b m)
  (next: ∀v,((k,v)∈m\/((∀p∈m,p.1≠k)/\v=zv))->TW P r Q N ds ops rest (ins E d none v) w):TW P r Q N ds ops (⟨d,.lookup t x y false,ty,pos,af,gu⟩::rest) E w :=
 nW K k c e f g h i hm λo a=>by
  cases o with
  | none=>exact next zv (.inr ⟨a,rfl⟩)
  | some v=>exact next v (.inl a)
theorem GL (K:GKey P kt κ) {m:List (κ×Value)} (k:κ) (c:gu=none) (e:aC N d=true) (f:P.underlying t=some (.map kt et)) (g:(P.info? et).bind (·.zero)=some zv)
  (h:ev E x=some (none,.map (some b))) (i:ev E y=some (none,K.enc k)) (hm:MapL K w b m)
  (j:(∀p∈m,p.1≠k)->TW P r Q N ds ops rest (ins E d none (.tuple #[zv,.bool false])) w) (l: ∀v,(k,v)∈m->TW P r Q N ds ops rest (ins E d none (.tuple #[v,.bool true])) w):TW P r Q N ds ops (⟨d,.lookup t x y true,ty,pos,af,gu⟩::rest) E w :=
 nW K k c e f g h i hm λo a=>by
  cases o with
  | none=>exact j a
  | some v=>exact l v a
open Classical in
noncomputable def jK (m:List (κ×Value)) (k:κ) (v:Value):List (κ×Value):=if∃p∈m,p.1=k then m.map λp=>if p.1=k then (k,v) else p else m++ [(k,v)]
theorem mem_lput {m:List (κ×Value)} {k:κ} {p:κ×Value}:p∈jK m k v↔p=(k,v)\/(p∈m/\p.1≠k):=by
 unfold jK
 split
 .rename_i h;rw [List.mem_map];constructor
  .rintro ⟨q,c,rfl⟩
   split
   .exact .inl rfl
   .rename_i a; exact .inr ⟨c,a⟩
  .rintro (rfl|⟨b,a⟩)
   .obtain ⟨q,c,d⟩:=h;exact ⟨q,c,by rw [if_pos d]⟩
   .exact ⟨p,b,by rw [if_neg a]⟩
 .rename_i h;rw [List.mem_append,List.mem_singleton];constructor
  .rintro (b|rfl)
   .exact .inr ⟨b,λe=>h ⟨p,b,e⟩⟩
   .exact .inl rfl
  .rintro (rfl|⟨b,_⟩)
   .exact .inr rfl
   .exact .inl b
theorem zf {m:List (κ×Value)} (h:m.Pairwise λp q=>p.1≠q.1) (k:κ) (v:Value):(jK m k v).Pairwise λp q=>p.1≠q.1:=by
 unfold jK
 split
 .rw [List.pairwise_map];refine h.imp λ{a b} c=> ?_
  split<;>split
  .rename_i d f; exact absurd (d.trans f.symm) c
  .rename_i d f; exact λe=>f e.symm
  .rename_i d f; exact d
  .exact c
 .rename_i g;rw [List.pairwise_append];refine ⟨h,List.pairwise_singleton _ _,λa j b i=> ?_⟩;rw [List.mem_singleton] at i;subst i;exact λe=>g ⟨a,j,e⟩
theorem oG (K:GKey P kt κ) (ht:P.underlying t=some (.map kt et)) {m:List (κ×Value)} (hm:MapL K w b m) (k:κ) (vz:Value) :
  ∃ n,(Instr.mapUpdate t (.map (some b)) (K.enc k) vz).run P w= .ok () n/\n.heap.size=w.heap.size/\But b w n/\MapL K n b (jK m k vz):=by
 obtain ⟨⟨c,F,hh,G,H,y⟩,I⟩:=id hm;obtain ⟨rr,hr,z,A⟩:=K.find w k m c.toList G;have W:=hm.lt;have s:(getObj b).run P w= .ok (.map c F) w:=by simp [getObj,Sem.run,hh]
 have v: ∀o,(setObj b o).run P w= .ok () {w with heap:=w.heap.setIfInBounds b o}:=λo=>by simp [setObj,Sem.run,hh]
 have J: ∀(d:Array MapEntry) (q:Nat),(Instr.mapUpdate t (.map (some b)) (K.enc k) vz).run P w= .ok () {w with heap:=w.heap.setIfInBounds b (.map d q)} ->
   d.toList.map (λe=>(e.key,e.val))=(jK m k vz).map (λp=>(K.enc p.1,p.2))->(d.toList.map (·.born)).Nodup->(∀e∈d.toList,e.born<q)-> ∃n,(Instr.mapUpdate t (.map (some b)) (K.enc k) vz).run P w= .ok () n/\n.heap.size=w.heap.size/\But b w n/\MapL K n b (jK m k vz):=by
  intro d q L B Y Z;refine ⟨_,L,ZM,⟨rfl,rfl,rfl,ZM,λi M C=> ?_⟩,⟨d,q,by simp [W],B,Y,Z⟩,zf I k vz⟩;have:b≠i:=λe=>C (by rw [e]);simp [Array.getElem?_setIfInBounds_ne this]
 cases rr with
 | none =>
  have a0: ¬ ∃p∈m,p.1=k:=λ⟨p,U,e⟩=>z rfl p U e;refine J (c.push {key:=K.enc k,val:=vz,born:=F}) (F+1) ?_ ?_ ?_ ?_
  .simp [Instr.mapUpdate,run_underlying ht,s,K.ok,hr,v]
  .unfold jK; rw [if_neg a0]; simp [G]
  .rw [Array.toList_push,List.map_append];refine List.nodup_append.2 ⟨H,ZM,λa ha b hb e=> ?_⟩;simp at hb;rw [List.mem_map] at ha;obtain ⟨x,hx,rfl⟩:=ha;have:=y x hx;omega
  .intro e r;rw [Array.toList_push,List.mem_append,List.mem_singleton] at r;rcases r with h|rfl
   .have:=y e h; omega
   .show F<F+1; omega
 | some p =>
  obtain ⟨j,u⟩:=p;have N:=A j u rfl;have D:=(ZE N).1;have a4:c.toList.length=m.length:=by have:=congrArg List.length G; simpa using this
  have E:j<c.size:=by simpa using (show j<c.toList.length by omega)
  have O:c[j].key=K.enc k:=by
   have:=congrArg (λl=>l[j]?) G;simp only [List.getElem?_map,N] at this;simp [E] at this;exact this.1
  have f:(c.modify j λe=> {e with key:=K.enc k,val:=vz}).toList.map (·.born)=c.toList.map (·.born):=by
   apply List.ext_getElem?;intro i;simp only [List.getElem?_map,Array.getElem?_toList,Array.getElem?_modify]
   split
   .cases c[i]?<;>rfl
   .rfl
  refine J (c.modify j λe=> {e with key:=K.enc k,val:=vz}) F ?_ ?_ (by rw [f]; exact H) (λe r=> ?_);rotate_left 2
  .have h1:e.born∈(c.modify j λe=> {e with key:=K.enc k,val:=vz}).toList.map (·.born):=List.mem_map.2 ⟨e,r,rfl⟩;rw [f,List.mem_map] at h1;obtain ⟨x,hx,a1⟩:=h1;rw [<-a1];exact y x hx
  .simp only [Instr.mapUpdate];simp [run_underlying ht,s,K.ok,hr,Instr.keyThatStays,E,O,K.bits k,v]
  .unfold jK;rw [if_pos ⟨(k,u),ZF N,rfl⟩];apply List.ext_getElem?;intro i;have M:=congrArg (λl=>l[i]?) G;simp only [List.getElem?_map] at M;simp only [List.getElem?_map,Array.getElem?_toList,Array.getElem?_modify];by_cases R:j=i
   .subst R;simp [E,N]
   .rw [if_neg R];rcases ZI i m.length with g|a2
    .have a3:=ZD g;have C:m[i].1≠k:=by
      have U:=List.pairwise_iff_getElem.1 I;have S:m[j].1=k:=by
       have:=ZD D;rw [N] at this;simp only [Option.some.injEq] at this;rw [<-this]
      rcases ZI i j with h|h
      .have:=U i j g D h; rw [S] at this; exact this
      .have:=U j i D g ZJ; rw [S] at this; exact λe=>this e.symm
     rw [a3] at M ⊢;simp only [Option.map_some,if_neg C] at M ⊢;simpa using M
    .have B:c[i]?=none:=by
      have:c.size<=i:=by
       have:c.toList.length<=i:=ZJ;simpa using this
      simp [this]
     rw [List.getElem?_eq_none a2,B];rfl
theorem dM (K:GKey P kt κ) {m:List (κ×Value)} (k:κ) {vz:Value} (i:gu=none) (j:P.underlying t=some (.map kt et))
  (l:ev E x=some (none,.map (some b))) (n:ev E y=some (none,K.enc k)) (o:ev E z=some (none,vz)) (hm:MapL K w b m)
  (next: ∀c,c.heap.size=w.heap.size->But b w c->MapL K c b (jK m k vz)->TW P r Q N ds ops rest E c):TW P r Q N ds ops (⟨none,.mapUpdate t x y z,ty,pos,af,gu⟩::rest) E w:=by
 obtain ⟨c,d,f,g,h⟩:=oG K j hm k vz;exact mr i rfl rfl (λa e=>by simp only [execOp]; rw [e.eval l trivial,e.eval n trivial,e.eval o trivial]; simp [d]) (next c f g h)
theorem rz (K:GKey P kt κ) {m:List (κ×Value)} (k:κ) {vz:Value} (i:gu=none) (j:P.underlying t=some (.map kt et))
  (l:ev E x=some (none,.map (some b))) (n:ev E y=some (none,K.enc k)) (o:ev E z=some (none,vz)) (hm:MapL K w b m)
  (next: ∀c,c.heap.size=w.heap.size->But b w c->MapL K c b (jK m k vz)->TW P r Q N ds ops rest E c):TW P r Q N ds ops (⟨none,.insert t x y z,ty,pos,af,gu⟩::rest) E w:=by
 obtain ⟨c,d,f,g,h⟩:=oG K j hm k vz;exact mr i rfl rfl (λa e=>by simp only [execOp]; rw [e.eval l trivial,e.eval n trivial,e.eval o trivial]; simp [d]) (next c f g h)
end
end
section
section
variable {P:Program} {Q:Exit->Act->World->Prop} {N:Nat} {ds:List Deferred} {ops:List Oper}
def QO (Q:Exit->Act->World->Prop):Prop:= ∀c a d v w,Q (.panic c) (Act.put a d v) w->Q (.panic c) a w
theorem uV (f:fU ops=true) {oi:Oper} (z:ops[i]?=some oi) {listed:Array Bool} (b: ∀e∈oi.after,Region.binds .any e=true->listed.getD e.on false=true) :
  ∀ j g,ops[j]?=some g->j≠i->listed.getD j true=false->(∀e∈g.after,Region.binds .any e=true->e.on≠i)->oi.apart ops.toArray g=true:=by
 intro j g y k p q;have c:listed.getD j false=true->False:=λh=>by
  rcases ZI j listed.size with s|s
  .simp [s] at p h; rw [p] at h; cases h
  .simp [Array.getElem?_eq_none s] at h
 have A:=λd l=>(dH f y z).2 d l;have B:=λd l=>(dH f z y).2 d l;unfold Oper.apart;rw [Bool.and_eq_true];constructor
 .cases l:oi.dst with
  | none=>rfl
  | some d =>
   obtain ⟨o,t⟩:=A d l;simp only [Bool.and_eq_true];constructor
   .cases r:(g.looksAt ops.toArray).contains d with
    | false=>rfl
    | true =>
     exfalso;have u:d∈g.looksAt ops.toArray:=by simpa using r
     obtain ⟨v,w⟩:=t u;rcases ZI i j with h|h
     .obtain ⟨e,m,n,a⟩:=v h;exact q e m n a
     .rcases w h with x|⟨e,m,n,a⟩
      .exact k x.symm
      .exact c (a ▸ b e m n)
   .rcases o with o|o
    .exact absurd o.symm k
    .simpa using o
 .cases l:g.dst with
  | none=>rfl
  | some d =>
   obtain ⟨o,t⟩:=B d l
   cases r:(oi.looksAt ops.toArray).contains d with
   | false=>simp only [r,Bool.not_false]
   | true =>
    exfalso;have u:d∈oi.looksAt ops.toArray:=by simpa using r
    obtain ⟨v,w⟩:=t u;rcases ZI j i with h|h
    .obtain ⟨e,m,n,a⟩:=v h;exact c (a ▸ b e m n)
    .rcases w h with x|⟨e,m,n,a⟩
     .exact k x
     .exact q e m n a
def wZ:Op->Bool
 | .move _=>true
 | .assign _=>true
 | .extract _ _=>true
 | _=>false
theorem MB {P:Program} (ρ:Operand->Value) (h:wZ o.op=true):(∃v,∀a,(execOp ρ o).run P a= .ok (.value v) a)\/ ∀a,∃s,(execOp ρ o).run P a= .halt (.stuck s) a:=by
 obtain ⟨d,e,j,f,k,l⟩:=o;cases e<;>first|(simp [wZ] at h; done)|skip
 .exact .inl ⟨_,λa=>by simp only [execOp]; rfl⟩
 .exact .inl ⟨_,λa=>by simp only [execOp]; rfl⟩
 .rename_i x i
  cases b:ρ x with
  | tuple g =>
   cases c:g[i]? with
   | some v=>exact .inl ⟨v,λa=>by simp only [execOp]; rw [b]; simp [Instr.extract,c]⟩
   | none=>exact .inr λa=>⟨_,by simp only [execOp]; rw [b]; simp [Instr.extract,c]; rfl⟩
  | _=>exact .inr λa=>⟨_,by simp only [execOp]; rw [b]; simp [stuck]; rfl⟩
def iW (ks:List Nat) (t i:Nat) (o:Oper):Oper:=match Nat.ble t i with
 | true=>⟨o.dst,o.op,o.type,o.pos,o.after++(ks.map λk=>(⟨k,.data⟩:Edge)).toArray,o.guard⟩
 | false=>o
def uQ (ks:List Nat) (t:Nat):Nat->List Oper->List Oper
 | _,[]=> []
 | i,o::os=>iW ks t i o::uQ ks t (i+1) os
def plus (ks:List Nat) (t:Nat) (ops:List Oper):List Oper:=uQ ks t 0 ops
theorem za (ks:List Nat) (t:Nat): ∀(a:List Oper) (j i:Nat),(uQ ks t j a)[i]?=(a[i]?).map (iW ks t (j+i))
 | [],j,i=>by simp [uQ]
 | o::a,j,0=>by simp [uQ]
 | o::a,j,i+1=>by
  simp only [uQ,List.getElem?_cons_succ];rw [za ks t a (j+1) i,show j+1+i=j+(i+1) by omega]
theorem lm (ks:List Nat) (t:Nat) (ops:List Oper) (i:Nat):(plus ks t ops)[i]?=(ops[i]?).map (iW ks t i):=by
 unfold plus; rw [za,Nat.zero_add]
theorem Js (ks:List Nat) (t i:Nat) (o:Oper):(iW ks t i o).dst=o.dst:=by unfold iW; split<;>rfl
theorem Cs (ks:List Nat) (t i:Nat) (o:Oper):(iW ks t i o).guard=o.guard:=by unfold iW; split<;>rfl
theorem oN {t:Nat} {e:Edge} (h:e∈(iW ks t i o).after):e∈o.after\/(t<=i/\ ∃k∈ks,e=⟨k,.data⟩):=by
 unfold iW at h
 split at h
 .rename_i a;rw [Array.mem_append] at h;rcases h with h|h
  .exact .inl h
  .right;refine ⟨Nat.le_of_ble_eq_true a,?_⟩;simp only [List.mem_toArray,List.mem_map] at h;obtain ⟨k,b,rfl⟩:=h;exact ⟨k,b,rfl⟩
 .exact .inl h
theorem wL {t:Nat} {e:Edge} (h:e∈o.after):e∈(iW ks t i o).after:=by
 unfold iW
 split
 .exact Array.mem_append.2 (.inl h)
 .exact h
theorem Ai (ks:List Nat) (t:Nat) (ops:List Oper) (a:Array Value) (j:Nat):yielded (plus ks t ops).toArray a j=yielded ops.toArray a j:=by
 rw [nz,nz,lm]
 cases ops[j]? with
 | none=>rfl
 | some o=>simp [Js]
theorem Cr (ks:List Nat) (t i:Nat) (ops:List Oper) (o:Oper) (a:Array Value):Region.wanted (iW ks t i o) (yielded (plus ks t ops).toArray a)=Region.wanted o (yielded ops.toArray a):=by
 have:yielded (plus ks t ops).toArray a=yielded ops.toArray a:=by funext j; exact Ai ks t ops a j
 rw [this];unfold Region.wanted;rw [Cs]
theorem Jr {F:Fence} {t:Nat} {a:Act}:(iW ks t i o).wpIn F n P a w K Q↔o.wpIn F n P a w K Q:=by
 unfold iW
 split
 .exact Iff.rfl
 .exact Iff.rfl
theorem plus_wpOp {F:Fence} {t:Nat} {a:Act}:wpOpIn F n P (plus ks t ops).toArray Q i K a w↔wpOpIn F n P ops.toArray Q i K a w:=by
 unfold wpOpIn;simp only [List.getElem?_toArray,lm]
 cases ops[i]? with
 | none=>exact Iff.rfl
 | some o =>
  simp only [Option.map_some,Cr]
  split
  .exact Jr
  .unfold iW
   split<;>exact Iff.rfl
def MC (ks:List Nat) (t:Nat) (ops:List Oper) (k:Nat):Bool:=Nat.blt k t&&match ops[k]? with
 | some o=>wZ o.op&&o.guard.isNone&&o.after.all λe=> !Region.binds .any e||oP ks e.on||((gF ops).drop t).all λm=>m.testBit e.on
 | none=>false
def Fs (ks:List Nat) (t:Nat) (ops:List Oper):Bool:=fU ops&&Region.noSelect ops.toArray&&ks.all (MC ks t ops)
theorem NY {t:Nat} (z:Fs ks t ops=true) (hQ:QO Q) :
  ∀ (m:Nat) (b:Array Bool) (a:Act) (w:World),(∀k o,ops[k]?=some o->b.getD k false=true-> ∀e∈o.after,Region.binds .any e=true->b.getD e.on false=true) ->
   wpAnyIn (FR none) 0 P .any (plus ks t ops).toArray Q m b a w->wpAnyIn (FR none) 0 P .any ops.toArray Q m b a w:=by
 unfold Fs at z;simp only [Bool.and_eq_true] at z;obtain ⟨⟨D,Z⟩,a8⟩:=z;have u: ∀k o,ops[k]?=some o-> ∀e∈o.after,Region.binds .any e=true->e.on<k:=λk o A e x y=>(dH D A A).1 e x y;have I: ∀k∈ks,k<t/\ ∃o,ops[k]?=some o/\wZ o.op=true/\o.guard=none/\ ∀e∈o.after,Region.binds .any e=true->e.on∈ks\/ ∀i,t<=i->i<ops.length->Reach ops i e.on:=by
  intro k A;have h:=List.all_eq_true.1 a8 k A;unfold MC at h;simp only [Bool.and_eq_true] at h;obtain ⟨p,r⟩:=h;refine ⟨blt_iff.1 p,?_⟩
  cases g:ops[k]? with
  | none=>rw [g] at r; cases r
  | some o =>
   rw [g] at r;simp only [Bool.and_eq_true] at r;obtain ⟨⟨h3,h4⟩,h5⟩:=r;refine ⟨o,rfl,h3,by simpa using h4,λe x y=> ?_⟩;rw [Array.all_eq_true'] at h5;have J:=h5 e x;rw [y] at J;simp only [Bool.not_true,Bool.false_or,Bool.or_eq_true] at J;rcases J with J|J
   .exact .inl (hasN_iff.1 J)
   .right;intro i K a0;have ak:(gF ops).length=ops.length:=by unfold gF; rw [iX]; simp
    have hm:(gF ops)[i]?=some (gF ops)[i]:=ZD ZJ;have h7:=List.all_eq_true.1 J (gF ops)[i] (by
     rw [List.mem_iff_getElem?];exact ⟨i-t,by rw [List.getElem?_drop,show t+(i-t)=i by omega,hm]⟩)
    exact uT (by rw [List.getD_eq_getElem?_getD,hm]; exact h7)
 have a1: ∀i o,(plus ks t ops).toArray[i]?=some o-> ∃S,ops[i]?=some S/\o=iW ks t i S:=by
  intro i o h;rw [List.getElem?_toArray,lm] at h
  cases g:ops[i]? with
  | none=>rw [g] at h; cases h
  | some S=>rw [g] at h; simp only [Option.map_some,Option.some.injEq] at h; exact ⟨S,rfl,h.symm⟩
 have s: ∀ {b:Array Bool} {i:Nat},(∀k o,ops[k]?=some o->b.getD k false=true-> ∀e∈o.after,Region.binds .any e=true->b.getD e.on false=true) ->
   (∀o,ops[i]?=some o-> ∀e∈o.after,Region.binds .any e=true->b.getD e.on false=true)-> ∀k o,ops[k]?=some o->(b.setIfInBounds i true).getD k false=true-> ∀e∈o.after,Region.binds .any e=true->(b.setIfInBounds i true).getD e.on false=true:=by
  intro b i U hd k o A hl e x y;refine getD_set_true ?_;by_cases a2:i=k
  .subst a2; exact hd o A e x y
  .rw [getD_set_ne false a2] at hl; exact U k o A hl e x y
 intro m
 induction m with
 | zero =>
  intro b a w U h;refine ⟨?_,h.2⟩
  cases hr:Region.ready .any ops.toArray b with
  | nil=>rfl
  | cons i l =>
   exfalso;have E:i∈Region.ready .any ops.toArray b:=by rw [hr]; simp
   have L: ∃j,j∈Region.ready .any (plus ks t ops).toArray b:=by
    have f: ∃j o,ops[j]?=some o/\b.getD j true=false:=by
     obtain ⟨h0,o,g,_⟩:=mem_ready.1 E;exact ⟨i,o,by simpa using g,h0⟩
    obtain ⟨j,o,F,f⟩:=f
    induction j using Nat.strongRecOn generalizing o with
    | _ j ih =>
     by_cases G: ∀j' W,j'<j->ops[j']?=some W->b.getD j' true=true
     .refine ⟨j,mem_ready.2 ⟨f,iW ks t j o,by rw [List.getElem?_toArray,lm,F]; rfl,λe x y=> ?_⟩⟩;have a9:e.on<j:=by
       rcases oN x with p|⟨p,k,A,rfl⟩
       .exact u j o F e p y
       .have:=(I k A).1; show k<j; omega
      have am:=(ZE F).1;have L:ops[e.on]?=some ops[e.on]:=ZD ZJ;have r:=G e.on _ a9 L;rcases ZI e.on b.size with Y|Y
      .simp [Y] at r ⊢; exact r
      .have aa:b.size<=j:=ZJ;simp [Array.getElem?_eq_none aa] at f
     .rcases Classical.not_forall.1 G with ⟨j',M⟩;rcases Classical.not_forall.1 M with ⟨W,M⟩;rcases Classical.not_forall.1 M with ⟨ab,M⟩;rcases Classical.not_forall.1 M with ⟨n,M⟩;exact ih j' ab W n (by simpa using M)
   obtain ⟨j,F⟩:=L;rw [h.1] at F
   cases F
 | succ m ih =>
  intro b a w U h;by_cases A: ∃k∈ks,k∈Region.ready .any (plus ks t ops).toArray b
  .obtain ⟨k,B,a3⟩:=A;obtain ⟨ac,o,g,C,a4,_⟩:=I k B;obtain ⟨f,W,n,d⟩:=mem_ready.1 a3;have q: ∀e∈o.after,Region.binds .any e=true->b.getD e.on false=true:=by
    rw [List.getElem?_toArray,lm,g] at n;simp only [Option.map_some,Option.some.injEq] at n;subst n;exact λe x y=>d e (wL x) y
   have a5:k∈Region.ready .any ops.toArray b:=mem_ready.2 ⟨f,o,by simpa using g,q⟩;have p:=plus_wpOp.1 (h.2 k a3);have hw:Region.wanted o (yielded ops.toArray a.tmps)=true:=by unfold Region.wanted; rw [a4]
   have ad: ∀N,o.about P N a.eval=none:=by
    intro N;unfold Oper.about;cases ae:o.op<;>first|rfl|(rw [ae] at C; simp [wZ] at C)
   unfold wpOpIn at p;simp only [List.getElem?_toArray,g,hw,if_true,Oper.wpIn] at p;have p:=p.2;obtain ⟨v,hv⟩: ∃v,∀N,(execOp a.eval o).run P N= .ok (.value v) N:=by
    rcases MB (P:=P) a.eval C with h|h
    .exact h
    .obtain ⟨st,af⟩:=h w;rw [Oper.semAt_none,af] at p;exact p.elim
   have r:wpAnyIn (FR none) 0 P .any (plus ks t ops).toArray Q m (b.setIfInBounds k true) (a.put o.dst v) w:=by
    rw [Oper.semAt_none,hv w] at p;exact p
   have h3:=ih _ _ _ (s U (λW n=>by rw [g] at n; cases n; exact q)) r
   exact wpAnyIn_first rfl (by simpa using g) (Region.noSelect_spec Z) (λc a w hq=>hQ c a _ _ w hq) m b a w
    (λj oj F=>uV D g q j oj (by simpa using F)) a5 ⟨.inl ⟨hw,hv⟩,ad⟩ h3
  .have O: ∀i,i∈Region.ready .any ops.toArray b->i∈Region.ready .any (plus ks t ops).toArray b:=by
    intro i E;obtain ⟨f,o,g,d⟩:=mem_ready.1 E;have g:ops[i]?=some o:=by simpa using g
    refine mem_ready.2 ⟨f,iW ks t i o,by rw [List.getElem?_toArray,lm,g]; rfl,λe x y=> ?_⟩;rcases oN x with p|⟨K,k,B,rfl⟩
    .exact d e p y
    .have a0:=(ZE g).1;have al:i<b.size:=by
      rcases ZI i b.size with Y|Y
      .exact Y
      .simp [Array.getElem?_eq_none Y] at f
     induction k using Nat.strongRecOn with
     | _ k ag =>
      cases a6:b.getD k false with
      | true=>rfl
      | false =>
       exfalso;obtain ⟨ac,ok,z,C,a4,ah⟩:=I k B;refine A ⟨k,B,mem_ready.2 ⟨?_,iW ks t k ok,by rw [List.getElem?_toArray,lm,z]; rfl,λe' ai a7=> ?_⟩⟩
       .have:k<b.size:=ZJ;simp [this] at a6 ⊢; exact a6
       .rcases oN ai with p|⟨p,_⟩
        .rcases ah e' p a7 with r|r
         .exact ag e'.on (u k ok z e' p a7) r (by unfold iW; rw [show Nat.ble t i=true from Nat.ble_eq_true_of_le K]; exact Array.mem_append.2 (.inr (by simp; exact r))) ZN
         .exact nJ U u (r i K a0) (λan H=>by rw [g] at H; cases H; exact d)
        .omega
   have R: ∀i,i∈Region.ready .any (plus ks t ops).toArray b->i∈Region.ready .any ops.toArray b:=by
    intro i E;obtain ⟨f,o,g,d⟩:=mem_ready.1 E;obtain ⟨S,h0,rfl⟩:=a1 i o g;exact mem_ready.2 ⟨f,S,by simpa using h0,λe x y=>d e (wL x) y⟩
   refine ⟨λhr=>h.1 ?_,λi E=> ?_⟩
   .cases aj:Region.ready .any (plus ks t ops).toArray b with
    | nil=>rfl
    | cons j l=>have:=R j (by rw [aj]; simp); rw [hr] at this; cases this
   .have p:=plus_wpOp.1 (h.2 i (O i E));obtain ⟨f,o,g,d⟩:=mem_ready.1 E;exact wpOpIn_mono (λa' N r=>ih _ a' N (s U (λW n=>by rw [show ops[i]?=some o by simpa using g] at n; cases n; exact d)) r) p
theorem ED (ks:List Nat) (t:Nat) {id:Nat} {E:Env} (hm:P.follows .mixedOrders=true) (g:Fs ks t ops=true) (m:QO Q) (h: ∀W,ZT w W->RW P none Q N ds (plus ks t ops) 0 E W):CW P none Q N ds (.region id ops.toArray true) E w:=by
 intro a i;refine wpIn_region_any hm ?_;have e:ops.toArray.size=ops.length:=ZM;have c:(plus ks t ops).length=ops.length:=by
  have: ∀(b:List Oper) (j:Nat),(uQ ks t j b).length=b.length:=by
   intro b
   induction b with
   | nil=>intro j; rfl
   | cons o b l=>intro j; simp [uQ,l]
  exact this ops 0
 refine NY g m _ _ _ _ (λk o d c=>by have f:=(ZE d).1; simp [f] at c) ?_;exact h {w with drawn:=w.drawn+1} ⟨rfl,rfl,rfl,ZC,λ_ _=>rfl⟩ a i (Array.replicate ops.length false) _ (by simp [c]) (λk d=>by rw [c] at d; simp [d]) ZJ
theorem jv {E:Env} {s:Nat} (i:fU ops=true) (q:Region.noSelect ops.toArray=true) (M:QO Q) (m:ops[s]?=some o) (O:aC N o.dst=true) (y:o.guard=none) (z: ∀c,o.op≠ .call c)
  (r: ∀a w,Fit N ds E a->(execOp a.eval o).run P w= .ok (.value v) w) (next:RW P none Q N ds ops (s+1) (ins E o.dst none v) w):RW P none Q N ds ops s E w:=by
 have t:=(ZE m).1;intro a A b d u l C;obtain ⟨d,rfl⟩: ∃f,d=f+1:=⟨d-1,ZJ⟩;have g: ∀e∈o.after,Region.binds .any e=true->b.getD e.on false=true:=by
  intro e D F;have:=(dH i m m).1 e D F;rw [l e.on ZJ];simp; omega
 have x:b.getD s true=false:=by
  have n:=l s t;have:s<b.size:=ZJ;simp [this] at n ⊢; exact n
 have G:s∈Region.ready .any ops.toArray b:=mem_ready.2 ⟨x,o,by simpa using m,g⟩
 refine wpAnyIn_first rfl (by simpa using m) (Region.noSelect_spec q) (λc a w H=>M c a _ _ w H) d b a w (λj I J=>uV i m g j I (by simpa using J)) G
  ⟨.inl ⟨by unfold Region.wanted; rw [y],λB=>r a B A⟩,λB=> ?_⟩ ?_
 .unfold Oper.about
  split
  .rename_i c K; exact absurd K (z c)
  .rfl
 .refine next _ (A.put O (λ_=>rfl) (λh=>absurd trivial h)) _ _ (by simp [u]) (λk L=> ?_) ZJ
  by_cases p:s=k
  .subst p;have:s<b.size:=ZJ;simp [this]
  .rw [getD_set_ne false p,l k L];by_cases n:k<s
   .simp; omega
   .simp; omega
end
end
theorem GU {e1 e2 e3 e4 e5 e6 e7:Ent} (h:Sats [e1,e2,e3,e4,e5,e6,e7] vs w): ∃a b c d e f g,vs= [a,b,c,d,e,f,g]/\e1.sat a w/\e2.sat b w/\e3.sat c w/\e4.sat d w/\e5.sat e w/\e6.sat f w/\e7.sat g w:=by
 match vs,h with
 | [a,b,c,d,e,f,g],⟨i,j,k,l,m,n,o,_⟩=>exact ⟨a,b,c,d,e,f,g,rfl,i,j,k,l,m,n,o⟩
def Made (w0:World) (t:TypeId) (cs:List Value) (v:Value) (w:World):Prop:= ∃g,v= .pointer (some ⟨g,0,none⟩)/\w0.heap.size<=g/\Blk w g t cs
theorem Made.mono (w0:World) (t:TypeId) (cs:List Value):Ent.mono (.pr (Made w0 t cs)):=λ_ _ _ a ⟨g,b,c,d⟩=>⟨g,b,c,d.next a⟩
theorem zU {P:Program} {ops rest:List Oper} {D:DE} {Fin:DE->Prop} {d:Option Tmp} {ty:TypeId} (h:aC N d=true) (e:zeroCells P t=some cs)
  (next:DW P N ds .weak ops w Fin rest (bE D d none (.pr (Made w t cs)))):DW P N ds .weak ops w Fin (⟨d,.alloc t,ty,pos,af,none⟩::rest) D:=by
 refine pG rfl h rfl (Made.mono w t cs) (λj a c g k=> ?_) next
 refine ⟨.pointer (some ⟨c.heap.size,0,none⟩),c.alloc (.cells cs.toArray t),?_,ii c _,c.heap.size,rfl,g.size,Blk.new c t cs⟩;unfold zeroCells at e
 cases f:P.info? t with
 | none=>simp [f] at e
 | some i =>
  cases b:i.zero with
  | none=>simp [f,b] at e
  | some l =>
   simp [f,b] at e;simp [execOp,Instr.alloc,zeroValue,typeInfo,f,b,Go.newVar,newRow,<-e]
theorem tF {P:Program} {r:Option Nat} {Q:Exit->Act->World->Prop} {ops rest:List Oper} {E:Env} {ty:TypeId} {gu:Option (Nat×Bool)} {x y:Operand}
   {j:Nat} (l:gu=none) (hs:(P.info? t).map (·.size)=some 1) (m:ev E x=some (none,.pointer (some (Addr.add ⟨g,0,none⟩ j)))) (o:ev E y=some (none,u)) (b:OwnS w e 1 (.slice (some ⟨g,0,none⟩) n c) n xs)
  (hj:j<xs.length) (h1:u.oneCell'=true) (next: ∀f,OwnS f e 1 (.slice (some ⟨g,0,none⟩) n c) n (xs.set j u)->But g w f->f.heap.size=w.heap.size->TW P r Q N ds ops rest E f):TW P r Q N ds ops (⟨none,.store t x y,ty,pos,af,gu⟩::rest) E w:=by
 obtain ⟨A,i,p,_,_,k⟩:=b.form;obtain ⟨q,s,a,d,h⟩:=k j xs[j] (ZD hj);simp [Value.ownBlock] at a;subst a;refine fu l hs m o (by rw [dQ]; exact d) (by rw [dQ]; exact h) h1 ?_;rw [dQ];exact next _ (b.set rfl hj u) (mE w g _ u) ZM
theorem OwnS.cell1 {j:Nat} (h:OwnS w e 1 (.slice (some ⟨g,0,none⟩) n c) n xs) (hj:xs[j]?=some u):w.cell? (Addr.add ⟨g,0,none⟩ j)=some u:=by
 obtain ⟨A,d,k,_,_,f⟩:=h.form;obtain ⟨l,m,a,b,i⟩:=f j u hj;simp [Value.ownBlock] at a;subst a;rw [dQ];exact b
theorem OwnS.addr (h:OwnS w e 1 (.slice A n c) n xs) (hn:0<xs.length): ∃g,A=some ⟨g,0,none⟩:=by
 obtain ⟨j,b,a,_,_,d⟩:=h.form;obtain ⟨f,i,_⟩:=d 0 xs[0] (ZD hn);simp only [Value.slice.injEq] at a;rw [a.1,i];exact ⟨f,rfl⟩
section
variable {α:Type}
theorem oQ (n:Nat): ∀(a:List (List Value×α)),(∀p∈a,p.1.length=n)-> ∀(i j:Nat) (p:List Value×α),a[i]?=some p->j<n->(a.flatMap (·.1))[i*n+j]?=p.1[j]? :=
 λa h i j p b c=>nN (λp:List Value×α=>p.1) n a h i j p b c
theorem eB {T:Ty α} (ps:List (List Value×α)) (z: ∀p∈ps,T.rep F w p.1 p.2) (H:0<T.n) (h:OwnS w e T.n v n (ps.flatMap (·.1))) (hn:n=ps.length) (I: ∀g,v.ownBlock=some g->F g) (hb:ps.length<=9223372036854775807):SL T F w v (ps.map (·.2)):=by
 subst hn;have a:=λp B=>T.len _ _ _ _ (z p B);obtain ⟨A,k,C,D,J,s⟩:=h.form;refine ⟨A,k,by simpa using C,by simpa using D,by simpa using hb,λi x l=> ?_⟩;have m:i<ps.length:=by have:=(ZE l).1; simpa using this
 have b:=ZD m;have o:ps[i].2=x:=by simp [b] at l; exact l
 have E:=a _ (List.getElem_mem m);obtain ⟨K,q⟩: ∃u,ps[i].1[0]?=some u:=⟨ps[i].1[0]'(by omega),ZD ZJ⟩;have d:=oQ T.n ps a i 0 _ b H;rw [q] at d;obtain ⟨g,t,f,_⟩:=s _ _ d;refine ⟨⟨g,0,none⟩,ps[i].1,t,I g f,λj u y=> ?_,by rw [<-o]; exact z _ (List.getElem_mem m)⟩;have r:j<T.n:=by rw [<-E]; exact (ZE y).1
 obtain ⟨L,c,_,G,_⟩:=s (i*T.n+j) u (by rw [oQ T.n ps a i j _ b r]; exact y);rw [t] at c;obtain ⟨rfl,_,_⟩:=c;rw [add_add,dQ];exact G
structure Ty.Nb {α:Type} (T:Ty α):Prop where
 pos:0<T.n
 nb: ∀F w cs x,T.rep F w cs x->T.rep (λk=>F k/\k<w.heap.size) w cs x
theorem Ty.Nb.now {T:Ty α} (h:T.Nb):T.Now:=⟨h.pos,λF w a x b=>T.wider _ _ _ _ _ (λ_ c=>c.2) (h.nb F w a x b)⟩
theorem AA:Ty.Nb aS:=⟨ZL,λ_ _ _ _ h=>h⟩
theorem SL.nb {T:Ty α} (e:T.Nb) {F:Nat->Prop} {w:World} {v:Value} {l:List α} (h:SL T F w v l):SL T (λk=>F k/\k<w.heap.size) w v l:=by
 obtain ⟨A,a,rfl,f,g,j⟩:=h;refine ⟨A,a,rfl,f,g,λi x m=> ?_⟩;obtain ⟨n,b,o,p,c,d⟩:=j i x m;refine ⟨n,b,o,⟨p,?_⟩,c,e.nb _ _ _ _ d⟩;have q:=T.len _ _ _ _ d;have r:0<b.length:=by rw [q]; exact e.pos
 have:=block_lt_of_cell (c 0 b[0] (ZD r))
 rwa [add_block,add_block] at this
def iE (w:World) (v:Value) (k:Nat):Prop:=k<w.heap.size/\v.ownBlock≠some k
def RowL (T:Ty α) (w:World) (e:TypeId) (b:Nat) (v:Value) (ps:List (List Value×α)):Prop:=OwnS w e T.n v ps.length (ps.flatMap (·.1))/\(∀p∈ps,T.rep (iE w v) w p.1 p.2)/\ ∀g,v.ownBlock=some g->b<=g
theorem RowL.nil (T:Ty α) (w:World) (e:TypeId) (b:Nat):RowL T w e b (.slice none 0 0) []:=⟨OwnS.nil _ _ _,(λp a=>by cases a),λg h=>by simp [Value.ownBlock] at h⟩
theorem RowL.big {T:Ty α} {ps:List (List Value×α)} (h:RowL T w e b v ps):ps.length<=9223372036854775807:=by
 rcases h.1.2 with ⟨rfl,f⟩|⟨g,a,c,i,j,k,l,d,m,n⟩
 .omega
 .simp only [maxLen] at d;omega
theorem RowL.sl {T:Ty α} (f:0<T.n) {ps:List (List Value×α)} (h:RowL T w e b v ps):SL T (λk=>k<w.heap.size) w v (ps.map (·.2)) :=
 eB ps (λp a=>T.wider _ _ _ _ _ (λ_ c=>c.1) (h.2.1 p a)) f h.1 rfl (λg d=>h.1.lt d) h.big
theorem RowL.form {T:Ty α} {w:World} {e:TypeId} {b:Nat} {v:Value} {ps:List (List Value×α)} (h:RowL T w e b v ps): ∃A a,v= .slice A ps.length a:=by
 obtain ⟨A,a,c,_⟩:=h.1.form;exact ⟨A,a,c⟩
theorem RowL.step {T:Ty α} {ps:List (List Value×α)} (h:RowL T w e b v ps) (hb:ZT w w'):RowL T w' e b v ps :=
 ⟨h.1.below hb,λp c=>T.wider _ _ _ _ _ (λk a=>⟨Nat.lt_of_lt_of_le a.1 hb.size,a.2⟩) (T.mono _ _ _ _ _ (Kept.of_below hb) (h.2.1 p c)),h.2.2⟩
theorem RowL.less {T:Ty α} {b':Nat} {ps:List (List Value×α)} (h:RowL T w e b v ps) (hb:b'<=b):RowL T w e b' v ps:=⟨h.1,h.2.1,λg a=>Nat.le_trans hb (h.2.2 g a)⟩
theorem RowL.app {T:Ty α} {v':Value} {ps:List (List Value×α)} {x:α} (h:RowL T w e b v ps) (l:OwnS w' e T.n v' (ps.length+1) (ps.flatMap (·.1)++cs)) (j:w.grownBy w' v.ownBlock) (hn:v'.ownBlock=v.ownBlock\/v'.ownBlock=some w.heap.size)
  (m:T.rep (iE w v) w cs x) (hb:b<=w.heap.size):RowL T w' e b v' (ps++ [(cs,x)]):=by
 have a:Kept (iE w v) w w':=Kept.of_blocks λk a f=>j.block k f (λe=>a.2 e.symm);have i: ∀k,iE w v k->iE w' v' k:=λk a=>⟨Nat.lt_of_lt_of_le a.1 j.size,λe=>by
  rcases hn with c|c
  .exact a.2 (by rw [<-c]; exact e)
  .rw [c] at e; cases e; exact absurd a.1 (Nat.lt_irrefl _)⟩
 refine ⟨by rw [List.flatMap_append,List.length_append]; simpa using l,λp d=> ?_,λq g=> ?_⟩
 .rcases ZH d with d|d
  .exact T.wider _ _ _ _ _ i (T.mono _ _ _ _ _ a (h.2.1 p d))
  .rw [List.mem_singleton] at d;subst d;exact T.wider _ _ _ _ _ i (T.mono _ _ _ _ _ a m)
 .rcases hn with c|c
  .exact h.2.2 q (by rw [<-c]; exact g)
  .rw [c] at g; cases g; exact hb
def PredI (P:Program) (w:World) (k:FuncId) (caps:List Value) (p:Int->Bool):Prop:= ∀x w',ZT w w'->Gives P k (ZU x::caps).toArray w' λu w''=>ZT w' w''/\u= .bool (p x)
theorem PredI.step {P:Program} {w w':World} {k:FuncId} {caps:List Value} {p:Int->Bool} (h:PredI P w k caps p) (hb:ZT w w'):PredI P w' k caps p:=λx a b=>h x a (hb.step b)
end
section
variable {α:Type}
theorem su {β:Type} (f:β->List Value) (n:Nat): ∀(a:List β),(∀p∈a,(f p).length=n)->(a.flatMap f).length=a.length*n
 | [],_=>by simp
 | p::a,h=>by
  rw [List.flatMap_cons,List.length_append,su f n a (λq b=>h q (List.mem_cons_of_mem _ b)),h p (List.mem_cons_self ..),List.length_cons,Nat.add_mul];omega
theorem SL.flat {T:Ty α} (E:0<T.n) {cap:Nat} {l:List α} (h:SL T F w (.slice A n cap) l) :
  ∃ a:List (List Value×α),a.map (·.2)=l/\(∀p∈a,T.rep F w p.1 p.2)/\(a.flatMap (·.1)).length=n*T.n/\ ∀j u,(a.flatMap (·.1))[j]?=some u-> ∃c,A=some c/\w.cell? (c.add j)=some u:=by
 obtain ⟨L,x,y,M,N,G⟩:=h;obtain ⟨rfl,rfl,rfl⟩:=y;have q: ∀(k:Nat),k<=l.length-> ∃a:List (List Value×α),a.map (·.2)=l.take k/\(∀p∈a,T.rep F w p.1 p.2)/\ ∀i p,a[i]?=some p-> ∃c,A=some c/\ ∀j u,p.1[j]?=some u->w.cell? ((c.add (i*T.n)).add j)=some u:=by
  intro k
  induction k with
  | zero=>exact λ_=>⟨[],ZM,(λp b=>by cases b),(λi p b=>by simp at b)⟩
  | succ k H =>
   intro O;obtain ⟨a,f,o,r⟩:=H ZJ;have z:l[k]?=some l[k]:=ZD ZJ;obtain ⟨c,I,s,_,t,J⟩:=G k _ z;have e:a.length=k:=by have:=congrArg List.length f; simp at this; omega
   refine ⟨a++ [(I,l[k])],by rw [List.map_append,f,ZG,z]; rfl,λp b=> ?_,λi p b=> ?_⟩
   .rcases ZH b with b|b
    .exact o p b
    .rw [List.mem_singleton] at b; subst b; exact J
   .rcases Nat.lt_trichotomy i k with g|g|g
    .rw [List.getElem?_append_left ZJ] at b;exact r i p b
    .rw [List.getElem?_append_right ZJ,e,g] at b;simp at b;subst b;subst g;exact ⟨c,s,t⟩
    .rw [List.getElem?_eq_none ZO] at b;cases b
 obtain ⟨a,f,o,r⟩:=q l.length ZC;rw [List.take_length] at f;have d:=λp b=>T.len _ _ _ _ (o p b);have e:a.length=l.length:=by rw [<-f]; simp
 have m:(a.flatMap (·.1)).length=a.length*T.n:=by
  exact su (λp:List Value×α=>p.1) T.n a d
 refine ⟨a,f,o,by rw [m,e],λj u B=> ?_⟩;have v:j<a.length*T.n:=by rw [<-m]; exact (ZE B).1
 have C:=Nat.div_add_mod' j T.n;have K:=Nat.mod_lt j E;have g:=(Nat.div_lt_iff_lt_mul E).2 v;have b:=ZD g;have D:=oQ T.n a d (j / T.n) (j%T.n) _ b K;rw [C,B] at D;obtain ⟨c,s,t⟩:=r _ _ b;refine ⟨c,s,?_⟩;have:=t (j%T.n) u D.symm
 rwa [add_add,C] at this
theorem Er {T:Ty α} {l:List α} (h:SL T F w (.slice A n c) l) (f:i<=l.length):SL T F w (.slice A i c) (l.take i):=by
 obtain ⟨g,b,d,j,m,e⟩:=h;obtain ⟨rfl,rfl,rfl⟩:=d;refine ⟨A,c,by simp [Nat.min_eq_left f],ZO,ZO,λk x a=> ?_⟩;rw [List.getElem?_take] at a
 split at a
 .exact e k x a
 .cases a
def Ty.One (T:Ty α):Prop:= ∀F w cs x,T.rep F w cs x-> ∀u∈cs,Value.oneCell' u=true
theorem MU:Ty.One aS:=λ_ _ _ _ h u a=>by rw [h.1] at a; simp at a; subst a; rfl
theorem Kl:Ty.One boolT:=λ_ _ _ _ h u a=>by rw [h] at a; simp at a; subst a; rfl
theorem iH {T:Ty α} (d:T.One) {ps:List (List Value×α)} (h: ∀p∈ps,T.rep F w p.1 p.2): ∀u∈ps.flatMap (·.1),Value.oneCell' u=true:=λu b=>by
 obtain ⟨p,c,a⟩:=List.mem_flatMap.1 b;exact d _ _ _ _ (h p c) u a
theorem wV: ∀ {E a:Env} {i:Nat} {c:Option Bool} {v:Value},look (E++a) i=some (c,v)->look E i=some (c,v)\/look a i=some (c,v)
 | [],_,_,_,_,h=> .inr h
 | (j,d,e)::E,a,i,c,v,h=>by
  simp only [List.cons_append,look] at h ⊢;by_cases b:j=i
  .subst b;rw [ig] at h ⊢;exact .inl h
  .rw [kF b] at h ⊢;exact wV h
theorem vX {D:DE} (ks:List Nat) (E:Env) (hE:lH D ks=some E) (is:List Nat) {es:List Ent} (hp:Gj D is=some es) (h: ∀e b,ZT w b->Sats es e b->KW N ds K (E++EG is e) b) :
  ∀ a b,ZT w b->FitD N ds D a b->K a b :=
 λa b f d=>h _ b f (d.sel hp) a ⟨d.size,d.defers,λi c v g=>(wV g).elim ((d.pick hE).slots i c v) ((d.zip is).slots i c v)⟩
def yO:Option Bool->Option Bool
 | some true=>none
 | c=>c
def sure:Env->Env
 | []=> []
 | (i,c,v)::E=>(i,yO c,v)::sure E
theorem yN (c:Option Bool):aF (yO c)↔aF c:=by
 rcases c with _|_|_<;>simp [yO,aF]
theorem zg: ∀ {E:Env} {i:Nat} {c:Option Bool} {v:Value},look (sure E) i=some (c,v)-> ∃a,look E i=some (a,v)/\yO a=c
 | [],_,_,_,h=>by cases h
 | (j,d,g)::E,i,c,v,h=>by
  simp only [sure,look] at h ⊢;by_cases b:j=i
  .subst b;rw [ig] at h ⊢;simp only [Option.some.injEq,Prod.mk.injEq] at h ⊢;obtain ⟨e,f⟩:=h;exact ⟨d,⟨rfl,f⟩,e⟩
  .rw [kF b] at h ⊢;exact zg h
theorem Fit.sure {N:Nat} {ds:List Deferred} {E:Env} {a:Act} (h:Fit N ds E a):Fit N ds (PF.sure E) a :=
 ⟨h.size,h.defers,λi c v b=>by
  obtain ⟨d,e,rfl⟩:=zg b;rw [yN];exact h.slots i d v e⟩
theorem dD {P:Program} {r:Option Nat} {Q:Exit->Act->World->Prop} {N:Nat} {ds:List Deferred} {ops rest:List Oper} {E:Env} {w:World} (h:TW P r Q N ds ops rest (PF.sure E) w):TW P r Q N ds ops rest E w:=λa b=>h a b.sure
end
section
variable {α:Type}
def RowB (T:Ty α) (w:World) (e:TypeId) (b:Nat) (v:Value) (ps:List (List Value×α)):Prop:=OwnS w e T.n v ps.length (ps.flatMap (·.1))/\(∀p∈ps,T.rep (λk=>b<=k/\iE w v k) w p.1 p.2)/\ ∀g,v.ownBlock=some g->b<=g
theorem RowB.nil (T:Ty α) (w:World) (e:TypeId) (b:Nat):RowB T w e b (.slice none 0 0) []:=⟨OwnS.nil _ _ _,(λp a=>by cases a),λg h=>by simp [Value.ownBlock] at h⟩
theorem RowB.new {T:Ty α} (c:Blk w g e []) (d:b<=g):RowB T w e b (.slice (some ⟨g,0,none⟩) 0 0) [] :=
 ⟨aU c ZM ZM,(λp a=>by cases a),λq h=>by simp [Value.ownBlock] at h; omega⟩
theorem RowB.l {T:Ty α} {ps:List (List Value×α)} (h:RowB T w e b v ps):RowL T w e b v ps:=⟨h.1,λp a=>T.wider _ _ _ _ _ (λ_ c=>c.2) (h.2.1 p a),h.2.2⟩
theorem RowB.sl {T:Ty α} (f:0<T.n) {ps:List (List Value×α)} (h:RowB T w e b v ps):SL T (λk=>b<=k/\k<w.heap.size) w v (ps.map (·.2)) :=
 eB ps (λp d=>T.wider _ _ _ _ _ (λ_ a=>⟨a.1,a.2.1⟩) (h.2.1 p d)) f h.1 rfl (λg c=>⟨h.2.2 g c,h.1.lt c⟩) h.l.big
theorem RowB.step {T:Ty α} {ps:List (List Value×α)} (h:RowB T w e b v ps) (hb:ZT w w'):RowB T w' e b v ps :=
 ⟨h.1.below hb,λp c=>T.wider _ _ _ _ _ (λk a=>⟨a.1,Nat.lt_of_lt_of_le a.2.1 hb.size,a.2.2⟩) (T.mono _ _ _ _ _ (Kept.of_below hb) (h.2.1 p c)),h.2.2⟩
theorem RowB.app {T:Ty α} {v':Value} {ps:List (List Value×α)} {x:α} (h:RowB T w e b v ps) (l:OwnS w' e T.n v' (ps.length+1) (ps.flatMap (·.1)++cs)) (j:w.grownBy w' v.ownBlock) (hn:v'.ownBlock=v.ownBlock\/v'.ownBlock=some w.heap.size)
  (m:T.rep (λk=>b<=k/\iE w v k) w cs x) (hb:b<=w.heap.size):RowB T w' e b v' (ps++ [(cs,x)]):=by
 have a:Kept (λk=>b<=k/\iE w v k) w w':=Kept.of_blocks λk a f=>j.block k f (λe=>a.2.2 e.symm);have i: ∀k,(b<=k/\iE w v k)->b<=k/\iE w' v' k:=λk a=>⟨a.1,Nat.lt_of_lt_of_le a.2.1 j.size,λe=>by
  rcases hn with c|c
  .exact a.2.2 (by rw [<-c]; exact e)
  .rw [c] at e; cases e; exact absurd a.2.1 (Nat.lt_irrefl _)⟩
 refine ⟨by rw [List.flatMap_append,List.length_append]; simpa using l,λp d=> ?_,λq g=> ?_⟩
 .rcases ZH d with d|d
  .exact T.wider _ _ _ _ _ i (T.mono _ _ _ _ _ a (h.2.1 p d))
  .rw [List.mem_singleton] at d;subst d;exact T.wider _ _ _ _ _ i (T.mono _ _ _ _ _ a m)
 .rcases hn with c|c
  .exact h.2.2 q (by rw [<-c]; exact g)
  .rw [c] at g; cases g; exact hb
end
section
section
variable {P:Program} {w:World}
end
section
variable {P:Program} {r:Option Nat} {Q:Exit->Act->World->Prop} {N:Nat} {ds:List Deferred} {ops rest:List Oper} {E:Env} {w:World}
variable {d:Option Tmp} {ty:TypeId} {pos:String} {af:Array Edge} {gu:Option (Nat×Bool)} {s x:Operand}
theorem GJ {ρ:Operand->Value} {l:Nat} (a:P.underlying t=some (.slice e)) (b:ρ x= .slice A l c):(execOp ρ ⟨d,.call ⟨.builtin .cap,#[x],#[t]⟩,ty,pos,af,gu⟩).run P w= .ok (.value (ZU (c:Int))) w:=by simp [execOp,resolve,Go.invoke,Go.builtin,b,Builtin.cap_,run_underlying a,goInt]
theorem pF {cx G:Option Bool} {A:Option Addr} {l c:Nat} {t e:TypeId} (f:gd ops E gu=some G) (g:aC N d=true) (h:P.underlying t=some (.slice e)) (i:ev E x=some (cx,.slice A l c)) (j:aF G->aF cx)
  (next:TW P r Q N ds ops rest (ins E d G (ZU (c:Int))) w):TW P r Q N ds ops (⟨d,.call ⟨.builtin .cap,#[x],#[t]⟩,ty,pos,af,gu⟩::rest) E w :=
 fZ f g rfl (λa _ b=>GJ h (b.eval i (j a))) next
end
end
section
section
variable {P:Program} {r:Option Nat} {Q:Exit->Act->World->Prop} {N:Nat} {ds:List Deferred} {ops rest:List Oper} {E:Env} {D:DE} {w:World} {G:Option Bool} {Fin:DE->Prop} {md:Mode}
variable {d:Option Tmp} {ty:TypeId} {pos:String} {af:Array Edge} {gu:Option (Nat×Bool)}
variable {x y z:Operand} {cx cy cz:Option Bool} {ρ:Operand->Value}
theorem rR (a:P.underlying t=some (.array n e)) (hs:(P.info? t).map (·.size)=some cs.length) {ad:Addr} (b: ∀j v,cs[j]?=some v->w.cell? (ad.add j)=some v) :
  (loadVar t ad).run P w= .ok (.agg cs.toArray) w:=by
 simp [loadVar,isAgg,run_underlying a,run_sizeOf hs,run_loadCells_list w ad cs b]
theorem Iw {ad:Addr} (a:P.underlying t=some (.array n e)) (hs:(P.info? t).map (·.size)=some cs.length) (b:ρ x= .pointer (some ad)) (c: ∀j v,cs[j]?=some v->w.cell? (ad.add j)=some v) :
  (execOp ρ ⟨d,.load t x,ty,pos,af,gu⟩).run P w= .ok (.value (.agg cs.toArray)) w:=by
 simp only [execOp]; rw [b]; simp [Instr.loadAt,Instr.sureAddr,rR a hs c]
theorem Ox {t e:TypeId} {ad:Addr} {m n:Nat} (cs:List Value) (c:gd ops E gu=some G) (f:aC N d=true) (g:P.underlying t=some (.array m e)) (hs:(P.info? t).map (·.size)=some n)
  (h:ev E x=some (cx,.pointer (some ad))) (i:aF G->aF cx) (k:aF G-> ∀j v,cs[j]?=some v->w.cell? (ad.add j)=some v) (hl:cs.length=n)
  (next:TW P r Q N ds ops rest (ins E d G (.agg cs.toArray)) w):TW P r Q N ds ops (⟨d,.load t x,ty,pos,af,gu⟩::rest) E w :=
 fZ c f rfl (λa _ b=>Iw g (hl ▸ hs) (b.eval h (i a)) (k a)) next
theorem VW {t e:TypeId} {ad:Addr} {m n:Nat} (cs:List Value) (h:fD ops D gu=some G) (i:aC N d=true) (k:P.underlying t=some (.array m e)) (hs:(P.info? t).map (·.size)=some n)
  (l:dev D x=some (cx,.ex (.pointer (some ad)))) (p:aF G->aF cx) (c:aF G-> ∀j v,cs[j]?=some v->w.cell? (ad.add j)=some v) (hl:cs.length=n)
  (next:DW P N ds md ops w Fin rest (bE D d G (.ex (.agg cs.toArray)))):DW P N ds md ops w Fin (⟨d,.load t x,ty,pos,af,gu⟩::rest) D :=
 jw h i rfl (λa _ _ f g=>Iw k (hl ▸ hs) (g.eval l ZQ (p a)) (λj v b=>(f.cell (block_lt_of_cell (c a j v b))).trans (c a j v b))) next
theorem JO (h1:one P e=true):(isAgg e).run P w= .ok false w:=by
 unfold one at h1
 cases a:P.underlying e with
 | none=>simp [a] at h1
 | some b=>cases b<;>first|(simp [a] at h1; done)|simp [isAgg,run_underlying a]
theorem Ob {l:Nat} {i:Int} (a:P.underlying t=some (.array l e)) (h1:one P e=true) (hs:(P.info? e).map (·.size)=some 1) (b:ρ x= .agg cs.toArray) (c:ρ y= .int k i) (f:0<=i/\i<(l:Int)) (g:cs[i.toNat]?=some v) :
  (execOp ρ ⟨d,.index t x y,ty,pos,af,gu⟩).run P w= .ok (.value v) w:=by
 simp only [execOp]; rw [b,c];simp [Instr.index,run_underlying a,asIntOf,f,run_sizeOf hs,part,JO h1,g]
theorem Kz {t e:TypeId} {l:Nat} {k:IntKind} {i:Int} {cs:List Value} {v:Value} (c:gd ops E gu=some G) (f:aC N d=true) (g:P.underlying t=some (.array l e)) (h1:one P e=true) (hs:(P.info? e).map (·.size)=some 1)
  (h:ev E x=some (cx,.agg cs.toArray)) (j:aF G->aF cx) (m:ev E y=some (cy,.int k i)) (n:aF G->aF cy) (o:aF G->0<=i/\i<(l:Int)) (p:aF G->cs[i.toNat]?=some v)
  (next:TW P r Q N ds ops rest (ins E d G v) w):TW P r Q N ds ops (⟨d,.index t x y,ty,pos,af,gu⟩::rest) E w :=
 fZ c f rfl (λa _ b=>Ob g h1 hs (b.eval h (j a)) (b.eval m (n a)) (o a) (p a)) next
variable {fn:Func} {R:Value->World->Prop}
theorem Q4 {s:Nat} {t1:TypeId} (b:fn.results= #[.cell s t]) (h:P.underlying t=some (.array m e)) (hs:(P.info? t).map (·.size)=some n) (hn:cs.length=n) (hl:look E s=some (none,.pointer (some ⟨g,0,none⟩))) (i:Blk w g t1 cs) (k:R (.agg cs.toArray) w) :
  KW N [] (bodyPost P fn (λe d=> ∃v,e= .returned v/\R v d) .ret) E w:=λa c=>by
 refine bodyPost_ret ?_ c.defers ⟨_,rfl,k⟩;have e:=(c.slots s none _ hl).1 trivial;simp only [Array.getD_eq_getD_getElem?] at e;subst hn;simp [results,b,e,asAddr,rR h hs (λj v f=>i.fld f)]
end
end
end Go.PF
