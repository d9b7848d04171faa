/- Texts of this claim,joined. -/
import Derived.Test.YtffjgpoadfkjlaaGreatDoorQC
import Derived.Laws.MakeOwn
import Derived.Laws.Small
set_option linter.unusedSimpArgs false
set_option linter.unusedVariables false
set_option maxRecDepth 100000
set_option maxHeartbeats 4000000
namespace Go.PF
open Go.RowKit
def andN (m n:Nat):Nat:=(BitVec.ofNat 32 m &&& ~~~ (BitVec.ofNat 32 n)).toNat
theorem andN_bit {m n:Nat} (i:Nat):(andN m n).testBit i=(decide (i<32)&&m.testBit i&& !(n.testBit i)):=by
 unfold andN
 rw [←BitVec.getLsbD,BitVec.getLsbD_and,BitVec.getLsbD_not,BitVec.getLsbD_ofNat,BitVec.getLsbD_ofNat]
 by_cases h:i<32<;>simp [h]
theorem andN_lt (m n:Nat):andN m n<2 ^ 32:=(BitVec.ofNat 32 m &&& ~~~ (BitVec.ofNat 32 n)).isLt
theorem andN_zero {m n:Nat} (hm:m<2 ^ 32):andN m n=0↔ ∀i,m.testBit i=true→n.testBit i=true:=by
 constructor
 ·intro h i hi
  have h1:=andN_bit (m:=m) (n:=n) i
  rw [h,Nat.zero_testBit,hi] at h1
  have h2:i<32:=by
   rcases Nat.lt_or_ge i 32 with h|h
   ·exact h
   ·rw [Nat.testBit_lt_two_pow (Nat.lt_of_lt_of_le hm (Nat.pow_le_pow_right (by decide) h))] at hi; cases hi
  simpa [h2] using h1.symm
 ·intro h
  apply Nat.eq_of_testBit_eq
  intro i
  rw [andN_bit,Nat.zero_testBit]
  cases hi:m.testBit i with
  | false=>simp
  | true=>simp [h i hi]
theorem wrap32 {z:Nat} (h:z<2 ^ 32):IntKind.u32.wrap (z:Int)=z:=by
 rw [IntKind.wrap_u32]; omega
theorem ofInt32 (m:Nat):BitVec.ofInt IntKind.u32.bits (m:Int)=BitVec.ofNat 32 m:=BitVec.ofInt_ofNat ..
theorem run_and32 {m n:Nat} (hm:m<2 ^ 32) (hn:n<2 ^ 32):Op.intBits .and .u32 (m:Int) (n:Int)=pure (.int .u32 ((m &&& n:Nat):Int)):=by
 have h:(BitVec.ofNat 32 m &&& BitVec.ofNat 32 n).toNat=m &&& n:=by
  rw [BitVec.toNat_and,BitVec.toNat_ofNat,BitVec.toNat_ofNat,Nat.mod_eq_of_lt hm,Nat.mod_eq_of_lt hn]
 unfold Op.intBits
 simp only [ofInt32]
 show (pure (Value.int .u32 (IntKind.u32.wrap (((BitVec.ofNat 32 m &&& BitVec.ofNat 32 n).toNat:Nat):Int))):Sem Value)=_
 rw [h,wrap32 (Nat.lt_of_le_of_lt Nat.and_le_left hm)]
theorem run_or32 {m n:Nat} (hm:m<2 ^ 32) (hn:n<2 ^ 32):Op.intBits .or .u32 (m:Int) (n:Int)=pure (.int .u32 ((m ||| n:Nat):Int)):=by
 have h:(BitVec.ofNat 32 m ||| BitVec.ofNat 32 n).toNat=m ||| n:=by
  rw [BitVec.toNat_or,BitVec.toNat_ofNat,BitVec.toNat_ofNat,Nat.mod_eq_of_lt hm,Nat.mod_eq_of_lt hn]
 unfold Op.intBits
 simp only [ofInt32]
 show (pure (Value.int .u32 (IntKind.u32.wrap (((BitVec.ofNat 32 m ||| BitVec.ofNat 32 n).toNat:Nat):Int))):Sem Value)=_
 rw [h,wrap32 (Nat.or_lt_two_pow hm hn)]
theorem run_andN32 {m n:Nat}:Op.intBits .andNot .u32 (m:Int) (n:Int)=pure (.int .u32 ((andN m n:Nat):Int)):=by
 unfold Op.intBits
 simp only [ofInt32]
 show (pure (Value.int .u32 (IntKind.u32.wrap (((BitVec.ofNat 32 m &&& ~~~ (BitVec.ofNat 32 n)).toNat:Nat):Int))):Sem Value)=_
 have:=wrap32 (andN_lt m n)
 unfold andN at this ⊢
 rw [this]
section
variable {P:Program} {r:Option Nat} {Q:Exit→Act→World→Prop} {N:Nat} {ds:List Deferred} {ops rest:List Oper} {E:Env} {D:DE} {w:World} {G:Option Bool} {Fin:DE→Prop} {md:Mode}
variable {d:Option Tmp} {ty:TypeId} {pos:String} {af:Array Edge} {gu:Option (Nat×Bool)}
variable {x y z:Operand} {cx cy cz:Option Bool} {ρ:Operand→Value}
def notIface (P:Program) (t:TypeId):Bool:=match P.underlying t with
 | none|some (.interface _)=>false
 | _=>true
theorem X.maxI {k:IntKind} {m n:Int} {ts:Array TypeId}  (hx:ρ x= .int k m) (hy:ρ y= .int k n):(execOp ρ ⟨d,.call ⟨.builtin .max,#[x,y],ts⟩,ty,pos,af,gu⟩).run P w= .ok (.value (.int k (max m n))) w:=by 
  have e:(if n>m then n else m)=max m n:=by omega
  simp [execOp,resolve,invoke,builtin,hx,hy,run_max_int2,e]
theorem V.maxI {k:IntKind} {m n:Int} {ts:Array TypeId}:Val P ⟨d,.call ⟨.builtin .max,#[x,y],ts⟩,ty,pos,af,gu⟩ [x,y] [.int k m,.int k n] (True) (.int k (max m n)) :=
 ⟨rfl,by simp [Op.operands,Call.operands],fun _ ρ w h=>by
  obtain ⟨hx,hy⟩:=map2 h
  have e:(if n>m then n else m)=max m n:=by omega
  simp [execOp,resolve,invoke,builtin,hx,hy,run_max_int2,e]⟩
theorem X.minI {k:IntKind} {m n:Int} {ts:Array TypeId}  (hx:ρ x= .int k m) (hy:ρ y= .int k n):(execOp ρ ⟨d,.call ⟨.builtin .min,#[x,y],ts⟩,ty,pos,af,gu⟩).run P w= .ok (.value (.int k (min m n))) w:=by 
  have e:(if n<m then n else m)=min m n:=by omega
  simp [execOp,resolve,invoke,builtin,hx,hy,run_min_int2,e]
theorem V.minI {k:IntKind} {m n:Int} {ts:Array TypeId}:Val P ⟨d,.call ⟨.builtin .min,#[x,y],ts⟩,ty,pos,af,gu⟩ [x,y] [.int k m,.int k n] (True) (.int k (min m n)) :=
 ⟨rfl,by simp [Op.operands,Call.operands],fun _ ρ w h=>by
  obtain ⟨hx,hy⟩:=map2 h
  have e:(if n<m then n else m)=min m n:=by omega
  simp [execOp,resolve,invoke,builtin,hx,hy,run_min_int2,e]⟩
theorem X.and32 {m n:Nat} {t t':TypeId}  (hx:ρ x= .int .u32 (m:Int)) (hy:ρ y= .int .u32 (n:Int)) (hb:m<2 ^ 32∧n<2 ^ 32):(execOp ρ ⟨d,.binOp .and t x y t',ty,pos,af,gu⟩).run P w= .ok (.value (.int .u32 ((m &&& n:Nat):Int))) w:=by simp only [execOp]; rw [hx,hy,eqGuard_and,binOp_and,run_and32 hb.1 hb.2]; rfl
theorem V.and32 {m n:Nat} {t t':TypeId}:Val P ⟨d,.binOp .and t x y t',ty,pos,af,gu⟩ [x,y] [.int .u32 (m:Int),.int .u32 (n:Int)] (m<2 ^ 32∧n<2 ^ 32) (.int .u32 ((m &&& n:Nat):Int)) :=
 ⟨rfl,by simp [Op.operands,Call.operands],fun hb ρ w h=>by
  obtain ⟨hx,hy⟩:=map2 h
  simp only [execOp]; rw [hx,hy,eqGuard_and,binOp_and,run_and32 hb.1 hb.2]; rfl⟩
theorem X.or32 {m n:Nat} {t t':TypeId}  (hx:ρ x= .int .u32 (m:Int)) (hy:ρ y= .int .u32 (n:Int)) (hb:m<2 ^ 32∧n<2 ^ 32):(execOp ρ ⟨d,.binOp .or t x y t',ty,pos,af,gu⟩).run P w= .ok (.value (.int .u32 ((m ||| n:Nat):Int))) w:=by simp only [execOp]; rw [hx,hy,eqGuard_or,binOp_or,run_or32 hb.1 hb.2]; rfl
theorem V.or32 {m n:Nat} {t t':TypeId}:Val P ⟨d,.binOp .or t x y t',ty,pos,af,gu⟩ [x,y] [.int .u32 (m:Int),.int .u32 (n:Int)] (m<2 ^ 32∧n<2 ^ 32) (.int .u32 ((m ||| n:Nat):Int)) :=
 ⟨rfl,by simp [Op.operands,Call.operands],fun hb ρ w h=>by
  obtain ⟨hx,hy⟩:=map2 h
  simp only [execOp]; rw [hx,hy,eqGuard_or,binOp_or,run_or32 hb.1 hb.2]; rfl⟩
theorem X.andNot32 {m n:Nat} {t t':TypeId}  (hx:ρ x= .int .u32 (m:Int)) (hy:ρ y= .int .u32 (n:Int)):(execOp ρ ⟨d,.binOp .andNot t x y t',ty,pos,af,gu⟩).run P w= .ok (.value (.int .u32 ((andN m n:Nat):Int))) w:=by simp only [execOp]; rw [hx,hy,eqGuard_andNot,binOp_andNot,run_andN32]; rfl
theorem V.andNot32 {m n:Nat} {t t':TypeId}:Val P ⟨d,.binOp .andNot t x y t',ty,pos,af,gu⟩ [x,y] [.int .u32 (m:Int),.int .u32 (n:Int)] (True) (.int .u32 ((andN m n:Nat):Int)) :=
 ⟨rfl,by simp [Op.operands,Call.operands],fun _ ρ w h=>by
  obtain ⟨hx,hy⟩:=map2 h
  simp only [execOp]; rw [hx,hy,eqGuard_andNot,binOp_andNot,run_andN32]; rfl⟩
theorem X.shl32 {k:IntKind} {n:Nat} {t t':TypeId}  (hx:ρ x= .int .u32 1) (hy:ρ y= .int k (n:Int)) (hb:n<32):(execOp ρ ⟨d,.binOp .shl t x y t',ty,pos,af,gu⟩).run P w= .ok (.value (.int .u32 ((1 <<< n:Nat):Int))) w:=by 
  have h1: ¬((n:Int)<0):=by omega
  have h2:min n IntKind.u32.bits=n:=Nat.min_eq_left (by show n≤32; omega)
  have h3:(1:Int)*(2:Int) ^ n=((1 <<< n:Nat):Int):=by rw [Nat.one_shiftLeft,Int.one_mul]; push_cast; rfl
  have h4:(1 <<< n:Nat)<2 ^ 32:=by rw [Nat.one_shiftLeft]; exact Nat.pow_lt_pow_right (by decide) hb
  simp only [execOp]; rw [hx,hy,eqGuard_shl,binOp_shl]
  simp only [Op.shift,if_neg h1,Int.toNat_natCast,h2,h3,wrap32 h4]; rfl
theorem V.shl32 {k:IntKind} {n:Nat} {t t':TypeId}:Val P ⟨d,.binOp .shl t x y t',ty,pos,af,gu⟩ [x,y] [.int .u32 1,.int k (n:Int)] (n<32) (.int .u32 ((1 <<< n:Nat):Int)) :=
 ⟨rfl,by simp [Op.operands,Call.operands],fun hb ρ w h=>by
  obtain ⟨hx,hy⟩:=map2 h
  have h1: ¬((n:Int)<0):=by omega
  have h2:min n IntKind.u32.bits=n:=Nat.min_eq_left (by show n≤32; omega)
  have h3:(1:Int)*(2:Int) ^ n=((1 <<< n:Nat):Int):=by rw [Nat.one_shiftLeft,Int.one_mul]; push_cast; rfl
  have h4:(1 <<< n:Nat)<2 ^ 32:=by rw [Nat.one_shiftLeft]; exact Nat.pow_lt_pow_right (by decide) hb
  simp only [execOp]; rw [hx,hy,eqGuard_shl,binOp_shl]
  simp only [Op.shift,if_neg h1,Int.toNat_natCast,h2,h3,wrap32 h4]; rfl⟩
theorem X.makeIface {vx:Value} {t:TypeId} (ht:notIface P t=true) (hx:ρ x=vx):(execOp ρ ⟨d,.makeInterface t x,ty,pos,af,gu⟩).run P w= .ok (.value (.iface t vx)) w:=by 
  unfold notIface at ht
  cases hu:P.underlying t with
  | none=>simp [hu] at ht
  | some dsc=>cases dsc<;>first|(simp [hu] at ht; done)|(simp only [execOp]; rw [hx]; simp [Instr.makeInterface,run_underlying hu])
theorem V.makeIface {vx:Value} {t:TypeId} (ht:notIface P t=true):Val P ⟨d,.makeInterface t x,ty,pos,af,gu⟩ [x] [vx] (True) (.iface t vx) :=
 ⟨rfl,by simp [Op.operands,Call.operands],fun _ ρ w h=>by
  have hx:=map1 h
  unfold notIface at ht
  cases hu:P.underlying t with
  | none=>simp [hu] at ht
  | some dsc=>cases dsc<;>first|(simp [hu] at ht; done)|(simp only [execOp]; rw [hx]; simp [Instr.makeInterface,run_underlying hu])⟩
theorem X.nilCheck {ad:Addr}  (hx:ρ x= .pointer (some ad)):(execOp ρ ⟨d,.nilCheck x,ty,pos,af,gu⟩).run P w= .ok (.value (.pointer (some ad))) w:=by simp only [execOp]; rw [hx]; rfl
theorem V.nilCheck {ad:Addr}:Val P ⟨d,.nilCheck x,ty,pos,af,gu⟩ [x] [.pointer (some ad)] (True) (.pointer (some ad)) :=
 ⟨rfl,by simp [Op.operands,Call.operands],fun _ ρ w h=>by
  have hx:=map1 h
  simp only [execOp]; rw [hx]; rfl⟩
def Meth (P:Program) (name:String) (t:TypeId) (k:FuncId):Prop:= ∀(v:Value) (args:Array Value) (w:World),(callMethod (.iface t v) name args).run P w= .ok (.enter k (#[v]++args)) w
theorem X.invoke {name:String} {t:TypeId} {k:FuncId} {u:Operand} {v:Value} {xs:List Operand} {vs:List Value} {ts:Array TypeId} (he:Meth P name t k) (hu:ρ u= .iface t v) (hv:xs.map ρ=vs) :
  (execOp ρ ⟨d,.call ⟨.invoke u name,xs.toArray,ts⟩,ty,pos,af,gu⟩).run P w= .ok (.enter k (v::vs).toArray) w:=by
 have h:=he v vs.toArray w
 have e: #[v]++vs.toArray=(v::vs).toArray:=by simp
 rw [e] at h
 simp [execOp,resolve,hu,hv,Go.invoke,h]
theorem TW.invoke {name:String} {t:TypeId} {k:FuncId} {u:Operand} {v:Value} {cu:Option Bool} {xs:List Operand} {vs:List Value} {ts:Array TypeId} {R:Value→World→Prop} (hg:gd ops E gu=some G) (hd:okDst N d=true) (he:Meth P name t k)
  (hu:ev E u=some (cu,.iface t v)) (ju:Cnd G→Cnd cu) (hv:Args N ds E G xs vs) (hc:Cnd G→Gives P k (v::vs).toArray w R)
  (next: ∀v w',(Cnd G→R v w')→(¬Cnd G→w'=w)→TW P r Q N ds ops rest (ins E d G v) w'):TW P r Q N ds ops (⟨d,.call ⟨.invoke u name,xs.toArray,ts⟩,ty,pos,af,gu⟩::rest) E w :=
 TW.enter hg hd rfl (fun hG a ha=>X.invoke he (ha.eval hu (ju hG)) (hv a ha hG)) hc next
theorem TW.invoke0 {name:String} {t:TypeId} {k:FuncId} {u:Operand} {v:Value} {xs:List Operand} {vs:List Value} {ts:Array TypeId} {R:Value→World→Prop} (hg:gu=none) (hd:okDst N d=true) (he:Meth P name t k)
  (hu:ev E u=some (none,.iface t v)) (hv:Args N ds E none xs vs) (hc:Gives P k (v::vs).toArray w R)
  (next: ∀v w',R v w'→TW P r Q N ds ops rest (ins E d none v) w'):TW P r Q N ds ops (⟨d,.call ⟨.invoke u name,xs.toArray,ts⟩,ty,pos,af,gu⟩::rest) E w :=
 TW.invoke (G:=none) (by rw [hg]; rfl) hd he hu ct hv (fun _=>hc) (fun v w' h _=>next v w' (h trivial))
theorem TW.invokeF {name:String} {t:TypeId} {k:FuncId} {u:Operand} {v y:Value} {cu:Option Bool} {xs:List Operand} {vs:List Value} {ts:Array TypeId} (hg:gd ops E gu=some G) (hd:okDst N d=true) (he:Meth P name t k)
  (hu:ev E u=some (cu,.iface t v)) (ju:Cnd G→Cnd cu) (hv:Args N ds E G xs vs) (hc:Cnd G→Gives P k (v::vs).toArray w fun v w'=>Below w.heap.size w w'∧v=y)
  (next: ∀w',Below w.heap.size w w'→TW P r Q N ds ops rest (ins E d G y) w'):TW P r Q N ds ops (⟨d,.call ⟨.invoke u name,xs.toArray,ts⟩,ty,pos,af,gu⟩::rest) E w:=by
 intro a ha
 obtain ⟨h1,h2⟩:=wanted_of (o:=⟨d,.call ⟨.invoke u name,xs.toArray,ts⟩,ty,pos,af,gu⟩) ha hg
 unfold wpListIn
 by_cases hcG:Cnd G
 ·rw [if_pos (h1 hcG)]
  refine ⟨fun _ _=>trivial,?_⟩
  rw [semAt_of rfl,X.invoke he (ha.eval hu (ju hcG)) (hv a ha hcG)]
  refine ⟨fun h=>by simp [Fence.wide] at h,?_⟩
  refine CallsIn.mono (callsIn_of (hc hcG)) ?_
  rintro e w' ⟨v,rfl,hb,rfl⟩
  exact next w' hb _ (ha.put hd (fun _=>rfl) (fun h=>absurd hcG h))
 ·rw [if_neg (by rw [h2 hcG]; simp)]
  exact ⟨fun _ _=>trivial,next w (Below.refl _ _) _ (ha.put hd (fun h=>absurd h hcG) (fun _=>rfl))⟩
theorem DW.invoke {name:String} {t:TypeId} {k:FuncId} {u:Operand} {v:Value} {cu:Option Bool} {xs:List Operand} {vs:List Value} {ts:Array TypeId} (e:Ent) (hm:e.mono) (hg:dgd ops D gu=some G) (hd:okDst N d=true) (he:Meth P name t k)
  (hu:dev D u=some (cu,.ex (.iface t v))) (ju:Cnd G→Cnd cu) (hv:DArgs (Oper.looksAt ops.toArray ⟨d,.call ⟨.invoke u name,xs.toArray,ts⟩,ty,pos,af,gu⟩) N ds D G xs vs)
  (hc:Cnd G→ ∀w',Below w.heap.size w w'→Gives P k (v::vs).toArray w' fun v w''=>Below w'.heap.size w' w''∧e.sat v w'')
  (next:DW P N ds .weak ops w Fin rest (dins D d G e)):DW P N ds .weak ops w Fin (⟨d,.call ⟨.invoke u name,xs.toArray,ts⟩,ty,pos,af,gu⟩::rest) D :=
 DW.enter (o:=⟨d,.call ⟨.invoke u name,xs.toArray,ts⟩,ty,pos,af,gu⟩) hg hd rfl hm (fun hG a w' hb ha=>⟨_,_,X.invoke he (ha.eval (o:=⟨d,.call ⟨.invoke u name,xs.toArray,ts⟩,ty,pos,af,gu⟩) hu (by simp [Op.operands,Call.operands]) (ju hG))
  (hv (fun t ht=>mem_looks (by simp [Op.operands,Call.operands,ht])) a w' ha hG),hc hG w' hb⟩) next
theorem made_cells {z:Value} {u:Value} (hz:z.cells= #[u]) (n:Nat):(madeCells z.cells (n*1)).toList=List.replicate n u:=by
 unfold madeCells
 rw [hz]
 apply List.ext_getElem?
 intro i
 by_cases h:i<n<;>simp [h,List.getElem?_replicate,Nat.mod_one]
def zero1 (P:Program) (t e:TypeId) (u:Value) (bytes:Nat):Prop:= ∃i z,P.underlying t=some (.slice e)∧P.info? e=some i∧i.zero=some z∧z.cells= #[u]∧i.size=1∧i.bytes=bytes
theorem zero1_of {t e:TypeId} {u:Value} {bytes:Nat} (hg:growOK P t e 1 bytes=true) (hz:(P.info? e).bind (·.zero)=some u) (hu:u.cells= #[u]):zero1 P t e u bytes:=by
 obtain ⟨i,zv,h1,h2,h3,h4,h5,h6,h7⟩:=growOK_spec hg
 rw [h2] at hz
 simp only [Option.bind_some,h3,Option.some.injEq] at hz
 subst hz
 exact ⟨i,zv,h1,h2,h3,hu,h4,h5⟩
theorem TW.makeSlice {t e:TypeId} {u:Value} {bytes n:Nat} {k k':IntKind} (hg:gu=none) (hd:okDst N d=true) (hz:zero1 P t e u bytes) (hx:ev E x=some (none,.int k (n:Int))) (hy:ev E y=some (none,.int k' (n:Int))) (hb:bytes*n≤281474976710656) (hn:n≤9223372036854775807)
  (next: ∀g w',Fresh w w' g e (List.replicate n u)→TW P r Q N ds ops rest (ins E d none (.slice (some ⟨g,0,none⟩) n n)) w'):TW P r Q N ds ops (⟨d,.makeSlice t x y,ty,pos,af,gu⟩::rest) E w:=by
 obtain ⟨i,z,hu,hi,hz0,hz1,hs,hby⟩:=hz
 have hr:=run_make (P:=P) w t e i z hu hi hz0 k k' (n:Int) (n:Int) (by omega) (Int.le_refl _) (by rw [hby,←Int.natCast_mul]; omega) (by omega)
 simp only [Int.toNat_natCast,hs] at hr
 have e1:madeCells z.cells (n*1)=(List.replicate n u).toArray:=by rw [←made_cells hz1 n]
 rw [e1] at hr
 refine TW.eff (w':=w.alloc (.cells (List.replicate n u).toArray e)) hg hd rfl (fun a ha=> ?_) (next _ _ (Fresh.mk' w e _))
 simp only [execOp]
 rw [ha.eval hx trivial,ha.eval hy trivial]
 simp [hr]
theorem TW.newVar1 {t:TypeId} {dd:Nat} {z v:Value} {ty':TypeId} {pos':String} {af':Array Edge} (hd:okDst N (some dd)=true) (hz:zeroCells P t=some [z]) (hy:ev ((dd,none,.pointer (some ⟨w.heap.size,0,none⟩))::E) y=some (none,v)) (hs:(P.info? t).map (·.size)=some 1)
  (h1:v.oneCell'=true) (next: ∀g w',Fresh w w' g t [v]→TW P r Q N ds ops rest ((dd,none,.pointer (some ⟨g,0,none⟩))::E) w') :
  TW P r Q N ds ops (⟨some dd,.alloc t,ty,pos,af,none⟩::⟨none,.store t (.tmp dd) y,ty',pos',af',none⟩::rest) E w:=by
 refine TW.eff (v:= .pointer (some ⟨w.heap.size,0,none⟩)) (w':=w.alloc (.cells [z].toArray t)) rfl hd rfl (fun a ha=> ?_) ?_
 ·unfold zeroCells at hz
  cases hi:P.info? t with
  | none=>simp [hi] at hz
  | some i =>
   cases hzz:i.zero with
   | none=>simp [hi,hzz] at hz
   | some zv =>
    simp [hi,hzz] at hz
    simp [execOp,Instr.alloc,zeroValue,typeInfo,hi,hzz,Go.newVar,newRow,←hz]
 ·have hB:=Blk.new w t [z]
  refine TW.store1 rfl hs (by simp [ev,look,ins]) hy (hB.cell 0) (hB.frozen 0) h1 ?_
  refine next _ _ ⟨rfl,?_,?_,hB.set 0 v⟩
  ·simp [World.setCell]
  ·exact (below_alloc w _).setCell (Nat.le_refl _) _
abbrev But (g:Nat) (w w':World):Prop:=w.grownBy w' (some g)
theorem But.of_below {g:Nat} {w w':World} (h:Below w.heap.size w w'):But g w w':=⟨h.os,h.tape,h.output,h.size,fun k hk _=>h.block k hk⟩
theorem But.trans {g:Nat} {w w' w'':World} (h:But g w w') (h':But g w' w''):But g w w'' :=
 ⟨h'.os.trans h.os,h'.tape.trans h.tape,h'.output.trans h.output,Nat.le_trans h.size h'.size,fun k hk hn=>(h'.block k (Nat.lt_of_lt_of_le hk h.size) hn).trans (h.block k hk hn)⟩
theorem But.step {g:Nat} {w w' w'':World} (h:But g w w') (h':Below w'.heap.size w' w''):But g w w'':=h.trans (.of_below h')
theorem But.below {g:Nat} {w w1 w2:World} (h:Below w.heap.size w w1) (h':But g w1 w2) (hg:w.heap.size≤g):Below w.heap.size w w2:=h.grown h' h.size (fun k hk=>by cases hk; exact hg)
theorem But.blk {g k:Nat} {w w':World} {t:TypeId} {cs:List Value} (h:But g w w') (hB:Blk w k t cs) (hk:k≠g):Blk w' k t cs:=(h.block k hB.lt (fun e=>hk (by cases e; rfl))).trans hB
theorem But.setCell {g j:Nat} {w:World} {u:Value}:But g w (w.setCell ⟨g,j,none⟩ u):=⟨rfl,rfl,rfl,by simp [World.setCell],fun k _ hn=>Below.heap_setCell _ _ _ _ (fun e=>hn (by rw [e]))⟩
theorem TW.storeFld {t t1:TypeId} {g j:Nat} {cs:List Value} {u:Value} (hg:gu=none) (hs:(P.info? t).map (·.size)=some 1) (hx:ev E x=some (none,.pointer (some (Addr.add ⟨g,0,none⟩ j)))) (hy:ev E y=some (none,u)) (hB:Blk w g t1 cs) (hj:j<cs.length) (h1:u.oneCell'=true)
  (next: ∀w',Blk w' g t1 (cs.set j u)→But g w w'→w'.heap.size=w.heap.size→TW P r Q N ds ops rest E w'):TW P r Q N ds ops (⟨none,.store t x y,ty,pos,af,gu⟩::rest) E w:=by
 refine TW.store1 hg hs hx hy (hB.fld (List.getElem?_eq_getElem hj)) (by rw [addr0]; exact hB.frozen _) h1 ?_
 rw [addr0]
 exact next _ (hB.set j u) .setCell (by simp [World.setCell])
end
end Go.PF
namespace Go.PF
open Go.RowKit
structure GKey (P:Program) (kt:TypeId) (κ:Type) where
 enc:κ→Value
 find: ∀(w:World) (k:κ) (m:List (κ×Value)) (es:List MapEntry),es.map (fun e=>(e.key,e.val))=m.map (fun p=>(enc p.1,p.2)) →
  ∃ r,(Instr.findKey kt (enc k) es).run P w= .ok r w∧(r=none→ ∀p∈m,p.1≠k)∧ ∀j u,r=some (j,u)→m[j]?=some (k,u)
 bits: ∀a,Instr.sameBits 10000 (enc a) (enc a)=true
 ok: ∀(e:Bool) (a:κ) (w:World),(Instr.checkKey e 10000 kt (enc a)).run P w= .ok () w
 inj: ∀a b,enc a=enc b→a=b
theorem run_findAsking {P:Program} {kt:TypeId} {κ:Type} {enc:κ→Value} {eqb:κ→κ→Bool} (hiff: ∀a b,eqb a b=true↔a=b) (heq: ∀(a b:κ) (w:World),(Op.equal kt (enc a) (enc b)).run P w= .ok (eqb a b) w) (w:World) (k:κ): ∀(m:List (κ×Value)) (es:List MapEntry) (i:Nat),es.map (fun e=>(e.key,e.val))=m.map (fun p=>(enc p.1,p.2)) →
  ∃ r,(Instr.findAsking kt (enc k) es i).run P w= .ok r w∧(r=none→ ∀p∈m,p.1≠k)∧ ∀j u,r=some (j,u)→i≤j∧m[j-i]?=some (k,u)
 | [],es,i,h=>by
  have:es= []:=by simpa using h
  subst this
  exact ⟨none,by simp [Instr.findAsking],(fun _ p hp=>by cases hp),(fun j u h=>by cases h)⟩
 | (k',v')::m,[],i,h=>by simp at h
 | (k',v')::m,e::es,i,h=>by
  simp only [List.map_cons,List.cons.injEq,Prod.mk.injEq] at h
  obtain ⟨⟨h1,h2⟩,h3⟩:=h
  cases hb:eqb k k' with
  | true =>
   have hk:k=k':=(hiff _ _).1 hb
   refine ⟨some (i,v'),by simp [Instr.findAsking,h1,heq,hb,h2],(fun h=>by cases h),fun j u hj=> ?_⟩
   simp only [Option.some.injEq,Prod.mk.injEq] at hj
   obtain ⟨rfl,rfl⟩:=hj
   exact ⟨Nat.le_refl _,by simp [hk]⟩
  | false =>
   obtain ⟨r,hr,hn,hs⟩:=run_findAsking hiff heq w k m es (i+1) h3
   refine ⟨r,by simp [Instr.findAsking,h1,heq,hb,hr],fun h p hp=> ?_,fun j u hj=> ?_⟩
   ·rcases List.mem_cons.1 hp with rfl|hp
    ·intro e
     have e:k'=k:=e
     rw [(hiff k k').2 e.symm] at hb
     cases hb
    ·exact hn h p hp
   ·obtain ⟨h4,h5⟩:=hs j u hj
    refine ⟨by omega,?_⟩
    rw [show j-i=(j-(i+1))+1 by omega]
    simpa using h5
def askKey (P:Program) (kt:TypeId) {κ:Type} (enc:κ→Value) (eqb:κ→κ→Bool) (kd:TypeDesc) (und:P.underlying kt=some kd) (hiff: ∀a b,eqb a b=true↔a=b) (heq: ∀(a b:κ) (w:World),(Op.equal kt (enc a) (enc b)).run P w= .ok (eqb a b) w)
  (ask: ∀a b,Instr.sameNow kd (enc a) (enc b)=none) (bits: ∀a,Instr.sameBits 10000 (enc a) (enc a)=true) (ok: ∀(e:Bool) (a:κ) (w:World),(Instr.checkKey e 10000 kt (enc a)).run P w= .ok () w) (inj: ∀a b,enc a=enc b→a=b):GKey P kt κ where
 enc:=enc
 find:=fun w k m es h=>by
  cases es with
  | nil =>
   have:m= []:=by simpa using h.symm
   subst this
   exact ⟨none,by simp [Instr.findKey,run_underlying und,Instr.findNow],(fun _ p hp=>by cases hp),(fun j u h=>by cases h)⟩
  | cons e es =>
   obtain ⟨r,hr,hn,hs⟩:=run_findAsking hiff heq w k m (e::es) 0 h
   have hf:Instr.findNow kd (enc k) (e::es) 0=none:=by
    cases m with
    | nil=>simp at h
    | cons p m =>
     simp only [List.map_cons,List.cons.injEq,Prod.mk.injEq] at h
     simp only [Instr.findNow]
     rw [h.1.1,ask]
   exact ⟨r,by simp [Instr.findKey,run_underlying und,hf,hr],hn,fun j u hj=>by have:=(hs j u hj).2; simpa using this⟩
 bits:=bits
 ok:=ok
 inj:=inj
def nowKey {P:Program} {kt:TypeId} {κ:Type} (K:Key P kt κ) (hiff: ∀a b,K.eqb a b=true↔a=b):GKey P kt κ where
  enc:=K.enc
  find:=fun w k m es h=>by
    obtain ⟨r,hr,hg,hn,hs⟩:=findNow_map K k m es 0 h
    refine ⟨r,by simp [Instr.findKey,run_underlying K.und,hr],fun h0 p hp e=> ?_,fun j u hj=> ?_⟩
    · have:=hn h0 p hp
      rw [(hiff _ _).2 e.symm] at this
      cases this
    · subst hj
      obtain ⟨j',h1,h2,h3,h4⟩:=hs j u rfl
      have e1:j=j':=by omega
      subst e1
      have h5:=(hiff _ _).1 (h3 h2)
      rw [List.getElem?_eq_getElem h2]
      have key: ∀(m:List (κ×Value)) (es:List MapEntry) (i j:Nat) (u:Value),es.map (fun e=>(e.key,e.val))=m.map (fun p=>(K.enc p.1,p.2))→Instr.findNow K.kd (K.enc k) es i=some (some (j,u))→i≤j∧ ∃p,m[j-i]?=some p∧p.2=u:=by
        intro m
        induction m with
        | nil => intro es i j u h hf; have : es = [] := by simpa using h
                 subst this; simp [Instr.findNow] at hf
        | cons p m ih =>
          intro es i j u h hf
          cases es with
          | nil=>simp at h
          | cons e es =>
            simp only [List.map_cons,List.cons.injEq,Prod.mk.injEq] at h
            obtain ⟨⟨h1,h2⟩,h3⟩:=h
            simp only [Instr.findNow] at hf
            rw [h1,K.same] at hf
            cases hb:K.eqb k p.1 with
            | true =>
              rw [hb] at hf
              simp only [Option.some.injEq,Prod.mk.injEq] at hf
              obtain ⟨rfl,rfl⟩:=hf
              exact ⟨Nat.le_refl _,p,by simp,h2.symm⟩
            | false =>
              rw [hb] at hf
              obtain ⟨h6,q,h7,h8⟩:=ih es (i+1) j u h3 hf
              refine ⟨by omega,q,?_,h8⟩
              rw [show j-i=(j-(i+1))+1 by omega]
              simpa using h7
      obtain ⟨_,p,h6,h7⟩:=key m es 0 j u h hr
      rw [Nat.sub_zero,List.getElem?_eq_getElem h2] at h6
      simp only [Option.some.injEq] at h6
      have:m[j]=(m[j].1,m[j].2):=rfl
      rw [this,←h5,h6,h7]
  bits:=fun a=>K.bits a a ((hiff a a).2 rfl)
  ok:=K.ok
  inj:=fun a b h=>by
    have h1:=K.same a b
    rw [←h,K.same a a] at h1
    simp only [Option.some.injEq] at h1
    exact (hiff a b).1 (by rw [←h1]; exact (hiff a a).2 rfl)

section
variable {P:Program} {r:Option Nat} {Q:Exit→Act→World→Prop} {N:Nat} {ds:List Deferred} {ops rest:List Oper} {E:Env} {D:DE} {w:World} {G:Option Bool} {Fin:DE→Prop} {md:Mode}
variable {d:Option Tmp} {ty:TypeId} {pos:String} {af:Array Edge} {gu:Option (Nat×Bool)}
variable {x y z:Operand} {cx cy cz:Option Bool} {ρ:Operand→Value} {κ:Type} {kt:TypeId}
structure MapL (K:GKey P kt κ) (w:World) (b:Nat) (m:List (κ×Value)):Prop where
 is: ∃es clock,w.heap[b]?=some (.map es clock)∧es.toList.map (fun e=>(e.key,e.val))=m.map (fun p=>(K.enc p.1,p.2))∧(es.toList.map (·.born)).Nodup∧ ∀e∈es.toList,e.born<clock
 once:m.Pairwise fun p q=>p.1≠q.1
theorem MapL.lt {K:GKey P kt κ} {b:Nat} {m:List (κ×Value)} (h:MapL K w b m):b<w.heap.size:=by
 obtain ⟨⟨es,cl,hh,_⟩,_⟩:=h; exact (Array.getElem?_eq_some_iff.1 hh).1
theorem MapL.kept {K:GKey P kt κ} {b:Nat} {m:List (κ×Value)} {w':World} (h:MapL K w b m) (hk:w'.heap[b]?=w.heap[b]?):MapL K w' b m:=by
 obtain ⟨⟨es,cl,hh,hm⟩,h2⟩:=h; exact ⟨⟨es,cl,hk.trans hh,hm⟩,h2⟩
theorem MapL.below {K:GKey P kt κ} {b:Nat} {m:List (κ×Value)} {w':World} (h:MapL K w b m) (hb:Below w.heap.size w w'):MapL K w' b m:=h.kept (hb.block b h.lt)
theorem MapL.but {K:GKey P kt κ} {b g:Nat} {m:List (κ×Value)} {w':World} (h:MapL K w b m) (hb:But g w w') (hg:b≠g):MapL K w' b m:=h.kept (hb.block b h.lt (fun e=>hg (by cases e; rfl)))
theorem TW.makeMapL {t:TypeId} (K:GKey P kt κ) (hg:gu=none) (hd:okDst N d=true)
  (next: ∀b w',b=w.heap.size→w'.heap.size=b+1→Below w.heap.size w w'→MapL K w' b []→TW P r Q N ds ops rest (ins E d none (.map (some b))) w'):TW P r Q N ds ops (⟨d,.makeMap t none,ty,pos,af,gu⟩::rest) E w :=
 TW.eff (v:= .map (some w.heap.size)) (w':=w.alloc (.map #[] 0)) hg hd rfl (fun a ha=>by simp [execOp,Instr.makeMap])
  (next _ _ rfl (by simp) ((Below.refl _ _).alloc (Nat.le_refl _) _) ⟨⟨#[],0,heap_alloc_new w _,rfl,by simp,by simp⟩,List.Pairwise.nil⟩)
def Found (m:List (κ×Value)) (k:κ):Option Value→Prop
 | none=> ∀p∈m,p.1≠k
 | some v=>(k,v)∈m
theorem run_lookupL (K:GKey P kt κ) {t et:TypeId} (ht:P.underlying t=some (.map kt et)) {zv:Value} (hz:(P.info? et).bind (·.zero)=some zv) {b:Nat} {m:List (κ×Value)} (hm:MapL K w b m) (k:κ) (ok:Bool) :
  ∃ o,Found m k o∧(Instr.lookup t (.map (some b)) (K.enc k) ok).run P w= .ok (if ok then .tuple #[o.getD zv,.bool o.isSome] else o.getD zv) w:=by
 obtain ⟨⟨es,cl,hh,he,_⟩,_⟩:=hm
 obtain ⟨rr,hr,hn,hs⟩:=K.find w k m es.toList he
 cases hi:P.info? et with
 | none=>simp [hi] at hz
 | some i =>
  simp [hi] at hz
  have hobj:(getObj b).run P w= .ok (.map es cl) w:=by simp [getObj,Sem.run,hh]
  cases rr with
  | none =>
   refine ⟨none,hn rfl,?_⟩
   cases ok<;>simp [Instr.lookup,run_underlying ht,hobj,K.ok,hr,zeroValue,typeInfo,hi,hz]
  | some p =>
   obtain ⟨j,u⟩:=p
   refine ⟨some u,List.mem_of_getElem? (hs j u rfl),?_⟩
   cases ok<;>simp [Instr.lookup,run_underlying ht,hobj,K.ok,hr]
theorem TW.lookupL (K:GKey P kt κ) {t et:TypeId} {zv:Value} {b:Nat} {m:List (κ×Value)} (k:κ) {ok:Bool} (hg:gu=none) (hd:okDst N d=true) (ht:P.underlying t=some (.map kt et)) (hz:(P.info? et).bind (·.zero)=some zv)
  (hx:ev E x=some (none,.map (some b))) (hy:ev E y=some (none,K.enc k)) (hm:MapL K w b m)
  (next: ∀o,Found m k o→TW P r Q N ds ops rest (ins E d none (if ok then .tuple #[o.getD zv,.bool o.isSome] else o.getD zv)) w):TW P r Q N ds ops (⟨d,.lookup t x y ok,ty,pos,af,gu⟩::rest) E w:=by
 obtain ⟨o,ho,hrun⟩:=run_lookupL K ht hz hm k ok
 subst hg
 exact TW.val (G:=none) rfl hd rfl (fun _ a ha=>by simp only [execOp]; rw [ha.eval hx trivial,ha.eval hy trivial]; simp [hrun]) (next o ho)
theorem TW.lookup1 (K:GKey P kt κ) {t et:TypeId} {zv:Value} {b:Nat} {m:List (κ×Value)} (k:κ) (hg:gu=none) (hd:okDst N d=true) (ht:P.underlying t=some (.map kt et)) (hz:(P.info? et).bind (·.zero)=some zv)
  (hx:ev E x=some (none,.map (some b))) (hy:ev E y=some (none,K.enc k)) (hm:MapL K w b m)
  (next: ∀v,((k,v)∈m∨((∀p∈m,p.1≠k)∧v=zv))→TW P r Q N ds ops rest (ins E d none v) w):TW P r Q N ds ops (⟨d,.lookup t x y false,ty,pos,af,gu⟩::rest) E w :=
 TW.lookupL K k hg hd ht hz hx hy hm fun o ho=>by
  cases o with
  | none=>exact next zv (.inr ⟨ho,rfl⟩)
  | some v=>exact next v (.inl ho)
theorem TW.lookup2 (K:GKey P kt κ) {t et:TypeId} {zv:Value} {b:Nat} {m:List (κ×Value)} (k:κ) (hg:gu=none) (hd:okDst N d=true) (ht:P.underlying t=some (.map kt et)) (hz:(P.info? et).bind (·.zero)=some zv)
  (hx:ev E x=some (none,.map (some b))) (hy:ev E y=some (none,K.enc k)) (hm:MapL K w b m)
  (n1:(∀p∈m,p.1≠k)→TW P r Q N ds ops rest (ins E d none (.tuple #[zv,.bool false])) w) (n2: ∀v,(k,v)∈m→TW P r Q N ds ops rest (ins E d none (.tuple #[v,.bool true])) w):TW P r Q N ds ops (⟨d,.lookup t x y true,ty,pos,af,gu⟩::rest) E w :=
 TW.lookupL K k hg hd ht hz hx hy hm fun o ho=>by
  cases o with
  | none=>exact n1 ho
  | some v=>exact n2 v ho
open Classical in
noncomputable def lput (m:List (κ×Value)) (k:κ) (v:Value):List (κ×Value):=if∃p∈m,p.1=k then m.map fun p=>if p.1=k then (k,v) else p else m++ [(k,v)]
theorem mem_lput {m:List (κ×Value)} {k:κ} {v:Value} {p:κ×Value}:p∈lput m k v↔p=(k,v)∨(p∈m∧p.1≠k):=by
 unfold lput
 split
 ·rename_i h
  rw [List.mem_map]
  constructor
  ·rintro ⟨q,hq,rfl⟩
   split
   ·exact .inl rfl
   ·rename_i hne; exact .inr ⟨hq,hne⟩
  ·rintro (rfl|⟨hp,hne⟩)
   ·obtain ⟨q,hq,he⟩:=h
    exact ⟨q,hq,by rw [if_pos he]⟩
   ·exact ⟨p,hp,by rw [if_neg hne]⟩
 ·rename_i h
  rw [List.mem_append,List.mem_singleton]
  constructor
  ·rintro (hp|rfl)
   ·exact .inr ⟨hp,fun e=>h ⟨p,hp,e⟩⟩
   ·exact .inl rfl
  ·rintro (rfl|⟨hp,_⟩)
   ·exact .inr rfl
   ·exact .inl hp
theorem lput_once {m:List (κ×Value)} (h:m.Pairwise fun p q=>p.1≠q.1) (k:κ) (v:Value):(lput m k v).Pairwise fun p q=>p.1≠q.1:=by
 unfold lput
 split
 ·rw [List.pairwise_map]
  refine h.imp fun {a b} hab=> ?_
  split<;>split
  ·rename_i h1 h2; exact absurd (h1.trans h2.symm) hab
  ·rename_i h1 h2; exact fun e=>h2 e.symm
  ·rename_i h1 h2; exact h1
  ·exact hab
 ·rename_i hno
  rw [List.pairwise_append]
  refine ⟨h,List.pairwise_singleton _ _,fun a ha b hb=> ?_⟩
  rw [List.mem_singleton] at hb
  subst hb
  exact fun e=>hno ⟨a,ha,e⟩
theorem run_mapUpdateL (K:GKey P kt κ) {t et:TypeId} (ht:P.underlying t=some (.map kt et)) {b:Nat} {m:List (κ×Value)} (hm:MapL K w b m) (k:κ) (vz:Value) :
  ∃ w',(Instr.mapUpdate t (.map (some b)) (K.enc k) vz).run P w= .ok () w'∧w'.heap.size=w.heap.size∧But b w w'∧MapL K w' b (lput m k vz):=by
 obtain ⟨⟨es,cl,hh,he,hbn,hbc⟩,hon⟩:=id hm
 obtain ⟨rr,hr,hnone,hsome⟩:=K.find w k m es.toList he
 have hlt:b<w.heap.size:=hm.lt
 have hobj:(getObj b).run P w= .ok (.map es cl) w:=by simp [getObj,Sem.run,hh]
 have hset: ∀o,(setObj b o).run P w= .ok () {w with heap:=w.heap.setIfInBounds b o}:=fun o=>by simp [setObj,Sem.run,hh]
 have fin: ∀(es':Array MapEntry) (cl':Nat),(Instr.mapUpdate t (.map (some b)) (K.enc k) vz).run P w= .ok () {w with heap:=w.heap.setIfInBounds b (.map es' cl')} →
   es'.toList.map (fun e=>(e.key,e.val))=(lput m k vz).map (fun p=>(K.enc p.1,p.2))→(es'.toList.map (·.born)).Nodup→(∀e∈es'.toList,e.born<cl')→ ∃w',(Instr.mapUpdate t (.map (some b)) (K.enc k) vz).run P w= .ok () w'∧w'.heap.size=w.heap.size∧But b w w'∧MapL K w' b (lput m k vz):=by
  intro es' cl' hrun hes hn' hc'
  refine ⟨_,hrun,by simp,⟨rfl,rfl,rfl,by simp,fun i hi hne=> ?_⟩,⟨es',cl',by simp [hlt],hes,hn',hc'⟩,lput_once hon k vz⟩
  have:b≠i:=fun e=>hne (by rw [e])
  simp [Array.getElem?_setIfInBounds_ne this]
 cases rr with
 | none =>
  have hno: ¬ ∃p∈m,p.1=k:=fun ⟨p,hp,e⟩=>hnone rfl p hp e
  refine fin (es.push {key:=K.enc k,val:=vz,born:=cl}) (cl+1) ?_ ?_ ?_ ?_
  ·simp [Instr.mapUpdate,run_underlying ht,hobj,K.ok,hr,hset]
  ·unfold lput; rw [if_neg hno]; simp [he]
  ·rw [Array.toList_push,List.map_append]
   refine List.nodup_append.2 ⟨hbn,by simp,fun a ha b hb e=> ?_⟩
   simp at hb
   rw [List.mem_map] at ha
   obtain ⟨x,hx,rfl⟩:=ha
   have:=hbc x hx
   omega
  ·intro e he'
   rw [Array.toList_push,List.mem_append,List.mem_singleton] at he'
   rcases he' with h|rfl
   ·have:=hbc e h; omega
   ·show cl<cl+1; omega
 | some p =>
  obtain ⟨j,u⟩:=p
  have hj:=hsome j u rfl
  have hjm:j<m.length:=(List.getElem?_eq_some_iff.1 hj).1
  have hlen:es.toList.length=m.length:=by have:=congrArg List.length he; simpa using this
  have hje:j<es.size:=by simpa using (show j<es.toList.length by omega)
  have hkey:es[j].key=K.enc k:=by
   have:=congrArg (fun l=>l[j]?) he
   simp only [List.getElem?_map,hj,Array.getElem?_toList] at this
   simp [hje] at this
   exact this.1
  have hborn:(es.modify j fun e=> {e with key:=K.enc k,val:=vz}).toList.map (·.born)=es.toList.map (·.born):=by
   apply List.ext_getElem?
   intro i
   simp only [List.getElem?_map,Array.getElem?_toList,Array.getElem?_modify]
   split
   ·cases es[i]?<;>rfl
   ·rfl
  refine fin (es.modify j fun e=> {e with key:=K.enc k,val:=vz}) cl ?_ ?_ (by rw [hborn]; exact hbn) (fun e he'=> ?_)
  rotate_left 2
  ·have h1:e.born∈(es.modify j fun e=> {e with key:=K.enc k,val:=vz}).toList.map (·.born):=List.mem_map.2 ⟨e,he',rfl⟩
   rw [hborn,List.mem_map] at h1
   obtain ⟨x,hx,hxe⟩:=h1
   rw [←hxe]
   exact hbc x hx
  ·simp only [Instr.mapUpdate]
   simp [run_underlying ht,hobj,K.ok,hr,Instr.keyThatStays,hje,hkey,K.bits k,hset]
  ·unfold lput
   rw [if_pos ⟨(k,u),List.mem_of_getElem? hj,rfl⟩]
   apply List.ext_getElem?
   intro i
   have hi:=congrArg (fun l=>l[i]?) he
   simp only [List.getElem?_map] at hi
   simp only [List.getElem?_map,Array.getElem?_toList,Array.getElem?_modify]
   by_cases hij:j=i
   ·subst hij
    simp [hje,hj]
   ·rw [if_neg hij]
    rcases Nat.lt_or_ge i m.length with hlt'|hge
    ·have hmi:m[i]?=some m[i]:=List.getElem?_eq_getElem hlt'
     have hne:m[i].1≠k:=by
      have hp:=List.pairwise_iff_getElem.1 hon
      have hkj:m[j].1=k:=by
       have:=List.getElem?_eq_getElem hjm
       rw [hj] at this
       simp only [Option.some.injEq] at this
       rw [←this]
      rcases Nat.lt_or_ge i j with h|h
      ·have:=hp i j hlt' hjm h; rw [hkj] at this; exact this
      ·have:=hp j i hjm hlt' (by omega); rw [hkj] at this; exact fun e=>this e.symm
     rw [hmi] at hi ⊢
     simp only [Option.map_some,if_neg hne] at hi ⊢
     simpa using hi
    ·have hes:es[i]?=none:=by
      have:es.size≤i:=by
       have:es.toList.length≤i:=by omega
       simpa using this
      simp [this]
     rw [List.getElem?_eq_none hge,hes]
     rfl
theorem TW.mapUpdateL (K:GKey P kt κ) {t et:TypeId} {b:Nat} {m:List (κ×Value)} (k:κ) {vz:Value} (hg:gu=none) (ht:P.underlying t=some (.map kt et))
  (hx:ev E x=some (none,.map (some b))) (hy:ev E y=some (none,K.enc k)) (hz:ev E z=some (none,vz)) (hm:MapL K w b m)
  (next: ∀w',w'.heap.size=w.heap.size→But b w w'→MapL K w' b (lput m k vz)→TW P r Q N ds ops rest E w'):TW P r Q N ds ops (⟨none,.mapUpdate t x y z,ty,pos,af,gu⟩::rest) E w:=by
 obtain ⟨w',hrun,h1,h2,h3⟩:=run_mapUpdateL K ht hm k vz
 exact TW.eff0 hg rfl rfl (fun a ha=>by simp only [execOp]; rw [ha.eval hx trivial,ha.eval hy trivial,ha.eval hz trivial]; simp [hrun]) (next w' h1 h2 h3)
theorem TW.insertL (K:GKey P kt κ) {t et:TypeId} {b:Nat} {m:List (κ×Value)} (k:κ) {vz:Value} (hg:gu=none) (ht:P.underlying t=some (.map kt et))
  (hx:ev E x=some (none,.map (some b))) (hy:ev E y=some (none,K.enc k)) (hz:ev E z=some (none,vz)) (hm:MapL K w b m)
  (next: ∀w',w'.heap.size=w.heap.size→But b w w'→MapL K w' b (lput m k vz)→TW P r Q N ds ops rest E w'):TW P r Q N ds ops (⟨none,.insert t x y z,ty,pos,af,gu⟩::rest) E w:=by
 obtain ⟨w',hrun,h1,h2,h3⟩:=run_mapUpdateL K ht hm k vz
 exact TW.eff0 hg rfl rfl (fun a ha=>by simp only [execOp]; rw [ha.eval hx trivial,ha.eval hy trivial,ha.eval hz trivial]; simp [hrun]) (next w' h1 h2 h3)
end
end Go.PF
namespace Go.PF
open Go.RowKit
section
variable {P:Program} {Q:Exit→Act→World→Prop} {N:Nat} {ds:List Deferred} {ops:List Oper}
def PanQ (Q:Exit→Act→World→Prop):Prop:= ∀c a d v w,Q (.panic c) (Act.put a d v) w→Q (.panic c) a w
theorem free_of_lex (hlex:lexOK ops=true) {i:Nat} {oi:Oper} (hi:ops[i]?=some oi) {listed:Array Bool} (hdeps: ∀e∈oi.after,Region.binds .any e=true→listed.getD e.on false=true) :
  ∀ j oj,ops[j]?=some oj→j≠i→listed.getD j true=false→(∀e∈oj.after,Region.binds .any e=true→e.on≠i)→oi.apart ops.toArray oj=true:=by
 intro j oj hj hne hun hno
 have hunf:listed.getD j false=true→False:=fun h=>by
  rcases Nat.lt_or_ge j listed.size with h'|h'
  ·simp [h'] at hun h; rw [hun] at h; cases h
  ·simp [Array.getElem?_eq_none h'] at h
 have h1:=fun d hd=>(lexOK_spec hlex hj hi).2 d hd
 have h2:=fun d hd=>(lexOK_spec hlex hi hj).2 d hd
 unfold Oper.apart
 rw [Bool.and_eq_true]
 constructor
 ·cases hd:oi.dst with
  | none=>rfl
  | some d =>
   obtain ⟨q1,q2⟩:=h1 d hd
   simp only [Bool.and_eq_true]
   constructor
   ·cases hc:(oj.looksAt ops.toArray).contains d with
    | false=>rfl
    | true =>
     exfalso
     have hm:d∈oj.looksAt ops.toArray:=by simpa using hc
     obtain ⟨q3,q4⟩:=q2 hm
     rcases Nat.lt_or_ge i j with h|h
     ·obtain ⟨e,he,hb,hon⟩:=q3 h
      exact hno e he hb hon
     ·rcases q4 h with h5|⟨e,he,hb,hon⟩
      ·exact hne h5.symm
      ·exact hunf (hon ▸ hdeps e he hb)
   ·rcases q1 with q1|q1
    ·exact absurd q1.symm hne
    ·simpa using q1
 ·cases hd:oj.dst with
  | none=>rfl
  | some d =>
   obtain ⟨q1,q2⟩:=h2 d hd
   cases hc:(oi.looksAt ops.toArray).contains d with
   | false=>simp only [hc,Bool.not_false]
   | true =>
    exfalso
    have hm:d∈oi.looksAt ops.toArray:=by simpa using hc
    obtain ⟨q3,q4⟩:=q2 hm
    rcases Nat.lt_or_ge j i with h|h
    ·obtain ⟨e,he,hb,hon⟩:=q3 h
     exact hunf (hon ▸ hdeps e he hb)
    ·rcases q4 h with h5|⟨e,he,hb,hon⟩
     ·exact hne h5
     ·exact hno e he hb hon
def isMove:Op→Bool
 | .move _=>true
 | .assign _=>true
 | .extract _ _=>true
 | _=>false
theorem move_run {P:Program} {o:Oper} (ρ:Operand→Value) (h:isMove o.op=true):(∃v,∀w',(execOp ρ o).run P w'= .ok (.value v) w')∨ ∀w',∃s,(execOp ρ o).run P w'= .halt (.stuck s) w':=by
 obtain ⟨dst,op,ty,pos,af,gu⟩:=o
 cases op<;>first|(simp [isMove] at h; done)|skip
 ·exact .inl ⟨_,fun w'=>by simp only [execOp]; rfl⟩
 ·exact .inl ⟨_,fun w'=>by simp only [execOp]; rfl⟩
 ·rename_i x i
  cases hx:ρ x with
  | tuple vs =>
   cases hv:vs[i]? with
   | some v=>exact .inl ⟨v,fun w'=>by simp only [execOp]; rw [hx]; simp [Instr.extract,hv]⟩
   | none=>exact .inr fun w'=>⟨_,by simp only [execOp]; rw [hx]; simp [Instr.extract,hv,stuck]; rfl⟩
  | _=>exact .inr fun w'=>⟨_,by simp only [execOp]; rw [hx]; simp [Instr.extract,stuck]; rfl⟩
def plusO (ks:List Nat) (t i:Nat) (o:Oper):Oper:=match Nat.ble t i with
 | true=>⟨o.dst,o.op,o.type,o.pos,o.after++(ks.map fun k=>(⟨k,.data⟩:Edge)).toArray,o.guard⟩
 | false=>o
def plusL (ks:List Nat) (t:Nat):Nat→List Oper→List Oper
 | _,[]=> []
 | i,o::os=>plusO ks t i o::plusL ks t (i+1) os
def plus (ks:List Nat) (t:Nat) (ops:List Oper):List Oper:=plusL ks t 0 ops
theorem plusL_get (ks:List Nat) (t:Nat): ∀(os:List Oper) (j i:Nat),(plusL ks t j os)[i]?=(os[i]?).map (plusO ks t (j+i))
 | [],j,i=>by simp [plusL]
 | o::os,j,0=>by simp [plusL]
 | o::os,j,i+1=>by
  simp only [plusL,List.getElem?_cons_succ]
  rw [plusL_get ks t os (j+1) i,show j+1+i=j+(i+1) by omega]
theorem plus_get (ks:List Nat) (t:Nat) (ops:List Oper) (i:Nat):(plus ks t ops)[i]?=(ops[i]?).map (plusO ks t i):=by
 unfold plus; rw [plusL_get,Nat.zero_add]
theorem plusO_dst (ks:List Nat) (t i:Nat) (o:Oper):(plusO ks t i o).dst=o.dst:=by unfold plusO; split<;>rfl
theorem plusO_guard (ks:List Nat) (t i:Nat) (o:Oper):(plusO ks t i o).guard=o.guard:=by unfold plusO; split<;>rfl
theorem plusO_after {ks:List Nat} {t i:Nat} {o:Oper} {e:Edge} (h:e∈(plusO ks t i o).after):e∈o.after∨(t≤i∧ ∃k∈ks,e=⟨k,.data⟩):=by
 unfold plusO at h
 split at h
 ·rename_i hb
  have h:e∈o.after++(ks.map fun k=>(⟨k,.data⟩:Edge)).toArray:=h
  rw [Array.mem_append] at h
  rcases h with h|h
  ·exact .inl h
  ·right
   refine ⟨Nat.le_of_ble_eq_true hb,?_⟩
   simp only [List.mem_toArray,List.mem_map] at h
   obtain ⟨k,hk,rfl⟩:=h
   exact ⟨k,hk,rfl⟩
 ·exact .inl h
theorem plusO_more {ks:List Nat} {t i:Nat} {o:Oper} {e:Edge} (h:e∈o.after):e∈(plusO ks t i o).after:=by
 unfold plusO
 split
 ·show e∈o.after++_
  exact Array.mem_append.2 (.inl h)
 ·exact h
theorem plus_yielded (ks:List Nat) (t:Nat) (ops:List Oper) (a:Array Value) (j:Nat):yielded (plus ks t ops).toArray a j=yielded ops.toArray a j:=by
 rw [yielded_eq,yielded_eq,plus_get]
 cases ops[j]? with
 | none=>rfl
 | some o=>simp [plusO_dst]
theorem plus_wanted (ks:List Nat) (t i:Nat) (ops:List Oper) (o:Oper) (a:Array Value):Region.wanted (plusO ks t i o) (yielded (plus ks t ops).toArray a)=Region.wanted o (yielded ops.toArray a):=by
 have:yielded (plus ks t ops).toArray a=yielded ops.toArray a:=by funext j; exact plus_yielded ks t ops a j
 rw [this]
 unfold Region.wanted
 rw [plusO_guard]
theorem plus_wpIn {F:Fence} {n:Nat} {ks:List Nat} {t i:Nat} {o:Oper} {a:Act} {w:World} {K:Act→World→Prop}:(plusO ks t i o).wpIn F n P a w K Q↔o.wpIn F n P a w K Q:=by
 unfold plusO
 split
 ·exact Iff.rfl
 ·exact Iff.rfl
theorem plus_wpOp {F:Fence} {n:Nat} {ks:List Nat} {t i:Nat} {a:Act} {w:World} {K:Act→World→Prop}:wpOpIn F n P (plus ks t ops).toArray Q i K a w↔wpOpIn F n P ops.toArray Q i K a w:=by
 unfold wpOpIn
 simp only [List.getElem?_toArray,plus_get]
 cases ops[i]? with
 | none=>exact Iff.rfl
 | some o =>
  simp only [Option.map_some,plus_wanted,plusO_dst]
  split
  ·exact plus_wpIn
  ·unfold plusO
   split<;>exact Iff.rfl
def moveOK (ks:List Nat) (t:Nat) (ops:List Oper) (k:Nat):Bool:=Nat.blt k t&&match ops[k]? with
 | some o=>isMove o.op&&o.guard.isNone&&o.after.all fun e=> !Region.binds .any e||hasN ks e.on||((masks ops).drop t).all fun m=>m.testBit e.on
 | none=>false
def plusOK (ks:List Nat) (t:Nat) (ops:List Oper):Bool:=lexOK ops&&Region.noSelect ops.toArray&&ks.all (moveOK ks t ops)
theorem any_plus {ks:List Nat} {t:Nat} (hok:plusOK ks t ops=true) (hQ:PanQ Q) :
  ∀ (fuel:Nat) (listed:Array Bool) (a:Act) (w:World),(∀k o,ops[k]?=some o→listed.getD k false=true→ ∀e∈o.after,Region.binds .any e=true→listed.getD e.on false=true) →
   wpAnyIn (FR none) 0 P .any (plus ks t ops).toArray Q fuel listed a w→wpAnyIn (FR none) 0 P .any ops.toArray Q fuel listed a w:=by
 unfold plusOK at hok
 simp only [Bool.and_eq_true] at hok
 obtain ⟨⟨hlex,hsel⟩,hks⟩:=hok
 have hback: ∀k o,ops[k]?=some o→ ∀e∈o.after,Region.binds .any e=true→e.on<k:=fun k o hk e he hb=>(lexOK_spec hlex hk hk).1 e he hb
 have hkk: ∀k∈ks,k<t∧ ∃o,ops[k]?=some o∧isMove o.op=true∧o.guard=none∧ ∀e∈o.after,Region.binds .any e=true→e.on∈ks∨ ∀i,t≤i→i<ops.length→Reach ops i e.on:=by
  intro k hk
  have h:=List.all_eq_true.1 hks k hk
  unfold moveOK at h
  simp only [Bool.and_eq_true] at h
  obtain ⟨h1,h2⟩:=h
  refine ⟨blt_iff.1 h1,?_⟩
  cases ho:ops[k]? with
  | none=>rw [ho] at h2; cases h2
  | some o =>
   rw [ho] at h2
   simp only [Bool.and_eq_true] at h2
   obtain ⟨⟨h3,h4⟩,h5⟩:=h2
   refine ⟨o,rfl,h3,by simpa using h4,fun e he hb=> ?_⟩
   rw [Array.all_eq_true'] at h5
   have h6:=h5 e he
   rw [hb] at h6
   simp only [Bool.not_true,Bool.false_or,Bool.or_eq_true] at h6
   rcases h6 with h6|h6
   ·exact .inl (hasN_iff.1 h6)
   ·right
    intro i hti hil
    have hlen:(masks ops).length=ops.length:=by unfold masks; rw [masksGo_len]; simp
    have hm:(masks ops)[i]?=some (masks ops)[i]:=List.getElem?_eq_getElem (by omega)
    have h7:=List.all_eq_true.1 h6 (masks ops)[i] (by
     rw [List.mem_iff_getElem?]
     exact ⟨i-t,by rw [List.getElem?_drop,show t+(i-t)=i by omega,hm]⟩)
    exact masks_reach (by rw [List.getD_eq_getElem?_getD,hm]; exact h7)
 have hget: ∀i o,(plus ks t ops).toArray[i]?=some o→ ∃o0,ops[i]?=some o0∧o=plusO ks t i o0:=by
  intro i o h
  rw [List.getElem?_toArray,plus_get] at h
  cases ho:ops[i]? with
  | none=>rw [ho] at h; cases h
  | some o0=>rw [ho] at h; simp only [Option.map_some,Option.some.injEq] at h; exact ⟨o0,rfl,h.symm⟩
 have hclosed: ∀ {listed:Array Bool} {i:Nat},(∀k o,ops[k]?=some o→listed.getD k false=true→ ∀e∈o.after,Region.binds .any e=true→listed.getD e.on false=true) →
   (∀o,ops[i]?=some o→ ∀e∈o.after,Region.binds .any e=true→listed.getD e.on false=true)→ ∀k o,ops[k]?=some o→(listed.setIfInBounds i true).getD k false=true→ ∀e∈o.after,Region.binds .any e=true→(listed.setIfInBounds i true).getD e.on false=true:=by
  intro listed i hc hd k o hk hl e he hb
  refine getD_set_true ?_
  by_cases hik:i=k
  ·subst hik; exact hd o hk e he hb
  ·rw [getD_set_ne false hik] at hl; exact hc k o hk hl e he hb
 intro fuel
 induction fuel with
 | zero =>
  intro listed a w hc h
  refine ⟨?_,h.2⟩
  cases hr:Region.ready .any ops.toArray listed with
  | nil=>rfl
  | cons i l =>
   exfalso
   have hi:i∈Region.ready .any ops.toArray listed:=by rw [hr]; simp
   have hex: ∃j,j∈Region.ready .any (plus ks t ops).toArray listed:=by
    have hun: ∃j o,ops[j]?=some o∧listed.getD j true=false:=by
     obtain ⟨h0,o,ho,_⟩:=mem_ready.1 hi
     exact ⟨i,o,by simpa using ho,h0⟩
    obtain ⟨j,o,hj,hun⟩:=hun
    induction j using Nat.strongRecOn generalizing o with
    | _ j ih =>
     by_cases hall: ∀j' o',j'<j→ops[j']?=some o'→listed.getD j' true=true
     ·refine ⟨j,mem_ready.2 ⟨hun,plusO ks t j o,by rw [List.getElem?_toArray,plus_get,hj]; rfl,fun e he hb=> ?_⟩⟩
      have hon:e.on<j:=by
       rcases plusO_after he with h1|⟨h1,k,hk,rfl⟩
       ·exact hback j o hj e h1 hb
       ·have:=(hkk k hk).1; show k<j; omega
      have hjl:=(List.getElem?_eq_some_iff.1 hj).1
      have hex:ops[e.on]?=some ops[e.on]:=List.getElem?_eq_getElem (by omega)
      have h2:=hall e.on _ hon hex
      rcases Nat.lt_or_ge e.on listed.size with h'|h'
      ·simp [h'] at h2 ⊢; exact h2
      ·have hjs:listed.size≤j:=by omega
       simp [Array.getElem?_eq_none hjs] at hun
     ·rcases Classical.not_forall.1 hall with ⟨j',hn⟩
      rcases Classical.not_forall.1 hn with ⟨o',hn⟩
      rcases Classical.not_forall.1 hn with ⟨hlt,hn⟩
      rcases Classical.not_forall.1 hn with ⟨ho',hn⟩
      exact ih j' hlt o' ho' (by simpa using hn)
   obtain ⟨j,hj⟩:=hex
   rw [h.1] at hj
   cases hj
 | succ fuel ih =>
  intro listed a w hc h
  by_cases hk: ∃k∈ks,k∈Region.ready .any (plus ks t ops).toArray listed
  ·obtain ⟨k,hkm,hkr⟩:=hk
   obtain ⟨hkt,o,ho,hmv,hgu,_⟩:=hkk k hkm
   obtain ⟨hun,o',ho',hdeps⟩:=mem_ready.1 hkr
   have hdeps0: ∀e∈o.after,Region.binds .any e=true→listed.getD e.on false=true:=by
    rw [List.getElem?_toArray,plus_get,ho] at ho'
    simp only [Option.map_some,Option.some.injEq] at ho'
    subst ho'
    exact fun e he hb=>hdeps e (plusO_more he) hb
   have hkr0:k∈Region.ready .any ops.toArray listed:=mem_ready.2 ⟨hun,o,by simpa using ho,hdeps0⟩
   have h1:=plus_wpOp.1 (h.2 k hkr)
   have hw:Region.wanted o (yielded ops.toArray a.tmps)=true:=by unfold Region.wanted; rw [hgu]
   have hab: ∀w',o.about P w' a.eval=none:=by
    intro w'
    unfold Oper.about
    cases hop:o.op<;>first|rfl|(rw [hop] at hmv; simp [isMove] at hmv)
   unfold wpOpIn at h1
   simp only [List.getElem?_toArray,ho,hw,if_true,Oper.wpIn] at h1
   have h1:=h1.2
   obtain ⟨v,hv⟩: ∃v,∀w',(execOp a.eval o).run P w'= .ok (.value v) w':=by
    rcases move_run (P:=P) a.eval hmv with h|h
    ·exact h
    ·obtain ⟨st,hst⟩:=h w
     rw [Oper.semAt_none,hst] at h1
     exact h1.elim
   have h2:wpAnyIn (FR none) 0 P .any (plus ks t ops).toArray Q fuel (listed.setIfInBounds k true) (a.put o.dst v) w:=by
    rw [Oper.semAt_none,hv w] at h1
    exact h1
   have h3:=ih _ _ _ (hclosed hc (fun o' ho'=>by rw [ho] at ho'; cases ho'; exact hdeps0)) h2
   exact wpAnyIn_first rfl (by simpa using ho) (Region.noSelect_spec hsel) (fun c a w hq=>hQ c a _ _ w hq) fuel listed a w
    (fun j oj hj=>free_of_lex hlex ho hdeps0 j oj (by simpa using hj)) hkr0 ⟨.inl ⟨hw,hv⟩,hab⟩ h3
  ·have hsame: ∀i,i∈Region.ready .any ops.toArray listed→i∈Region.ready .any (plus ks t ops).toArray listed:=by
    intro i hi
    obtain ⟨hun,o,ho,hdeps⟩:=mem_ready.1 hi
    have ho:ops[i]?=some o:=by simpa using ho
    refine mem_ready.2 ⟨hun,plusO ks t i o,by rw [List.getElem?_toArray,plus_get,ho]; rfl,fun e he hb=> ?_⟩
    rcases plusO_after he with h1|⟨hti,k,hkm,rfl⟩
    ·exact hdeps e h1 hb
    ·show listed.getD k false=true
     have hil:=(List.getElem?_eq_some_iff.1 ho).1
     have hisz:i<listed.size:=by
      rcases Nat.lt_or_ge i listed.size with h'|h'
      ·exact h'
      ·simp [Array.getElem?_eq_none h'] at hun
     induction k using Nat.strongRecOn with
     | _ k ihk =>
      cases hlk:listed.getD k false with
      | true=>rfl
      | false =>
       exfalso
       obtain ⟨hkt,ok,hok,hmv,hgu,hda⟩:=hkk k hkm
       refine hk ⟨k,hkm,mem_ready.2 ⟨?_,plusO ks t k ok,by rw [List.getElem?_toArray,plus_get,hok]; rfl,fun e' he' hb'=> ?_⟩⟩
       ·have:k<listed.size:=by omega
        simp [this] at hlk ⊢; exact hlk
       ·rcases plusO_after he' with h1|⟨h1,_⟩
        ·rcases hda e' h1 hb' with h2|h2
         ·exact ihk e'.on (hback k ok hok e' h1 hb') h2 (by unfold plusO; rw [show Nat.ble t i=true from Nat.ble_eq_true_of_le hti]; exact Array.mem_append.2 (.inr (by simp; exact h2))) (by rfl)
         ·exact reach_listed hc hback (h2 i hti hil) (fun o'' ho''=>by rw [ho] at ho''; cases ho''; exact hdeps)
        ·omega
   have hless: ∀i,i∈Region.ready .any (plus ks t ops).toArray listed→i∈Region.ready .any ops.toArray listed:=by
    intro i hi
    obtain ⟨hun,o,ho,hdeps⟩:=mem_ready.1 hi
    obtain ⟨o0,h0,rfl⟩:=hget i o ho
    exact mem_ready.2 ⟨hun,o0,by simpa using h0,fun e he hb=>hdeps e (plusO_more he) hb⟩
   refine ⟨fun hr=>h.1 ?_,fun i hi=> ?_⟩
   ·cases hr':Region.ready .any (plus ks t ops).toArray listed with
    | nil=>rfl
    | cons j l=>have:=hless j (by rw [hr']; simp); rw [hr] at this; cases this
   ·have h1:=plus_wpOp.1 (h.2 i (hsame i hi))
    obtain ⟨hun,o,ho,hdeps⟩:=mem_ready.1 hi
    exact wpOpIn_mono (fun a' w' h2=>ih _ a' w' (hclosed hc (fun o' ho'=>by rw [show ops[i]?=some o by simpa using ho] at ho'; cases ho'; exact hdeps)) h2) h1
theorem CW.drawPlus (ks:List Nat) (t:Nat) {id:Nat} {E:Env} {w:World} (hm:P.follows .mixedOrders=true) (hok:plusOK ks t ops=true) (hQ:PanQ Q) (h: ∀W,Below w.heap.size w W→RW P none Q N ds (plus ks t ops) 0 E W):CW P none Q N ds (.region id ops.toArray true) E w:=by
 intro a ha
 refine wpIn_region_any hm ?_
 have e:ops.toArray.size=ops.length:=by simp
 rw [e]
 have hl:(plus ks t ops).length=ops.length:=by
  have: ∀(os:List Oper) (j:Nat),(plusL ks t j os).length=os.length:=by
   intro os
   induction os with
   | nil=>intro j; rfl
   | cons o os ih=>intro j; simp [plusL,ih]
  exact this ops 0
 refine any_plus hok hQ _ _ _ _ (fun k o hk hl=>by have hkl:=(List.getElem?_eq_some_iff.1 hk).1; simp [hkl] at hl) ?_
 exact h {w with drawn:=w.drawn+1} ⟨rfl,rfl,rfl,Nat.le_refl _,fun _ _=>rfl⟩ a ha (Array.replicate ops.length false) _ (by simp [hl]) (fun k hk=>by rw [hl] at hk; simp [hk]) (by omega)
theorem RW.pure {E:Env} {w:World} {s:Nat} {o:Oper} {v:Value} (hlex:lexOK ops=true) (hsel:Region.noSelect ops.toArray=true) (hQ:PanQ Q) (ho:ops[s]?=some o) (hd:okDst N o.dst=true) (hgu:o.guard=none) (hnc: ∀c,o.op≠ .call c)
  (hrun: ∀a w,Fit N ds E a→(execOp a.eval o).run P w= .ok (.value v) w) (next:RW P none Q N ds ops (s+1) (ins E o.dst none v) w):RW P none Q N ds ops s E w:=by
 have hsl:s<ops.length:=(List.getElem?_eq_some_iff.1 ho).1
 intro a ha listed fuel hsz hls hfu
 obtain ⟨fuel,rfl⟩: ∃f,fuel=f+1:=⟨fuel-1,by omega⟩
 have hdeps: ∀e∈o.after,Region.binds .any e=true→listed.getD e.on false=true:=by
  intro e he hb
  have:=(lexOK_spec hlex ho ho).1 e he hb
  rw [hls e.on (by omega)]
  simp; omega
 have hun:listed.getD s true=false:=by
  have h1:=hls s hsl
  have:s<listed.size:=by omega
  simp [this] at h1 ⊢; exact h1
 have hr:s∈Region.ready .any ops.toArray listed:=mem_ready.2 ⟨hun,o,by simpa using ho,hdeps⟩
 refine wpAnyIn_first (v:=v) rfl (by simpa using ho) (Region.noSelect_spec hsel) (fun c a w hq=>hQ c a _ _ w hq) fuel listed a w (fun j oj hj=>free_of_lex hlex ho hdeps j oj (by simpa using hj)) hr
  ⟨.inl ⟨by unfold Region.wanted; rw [hgu],fun w'=>hrun a w' ha⟩,fun w'=> ?_⟩ ?_
 ·unfold Oper.about
  split
  ·rename_i c hc; exact absurd hc (hnc c)
  ·rfl
 ·refine next _ (ha.put hd (fun _=>rfl) (fun h=>absurd trivial h)) _ _ (by simp [hsz]) (fun k hk=> ?_) (by omega)
  by_cases hks:s=k
  ·subst hks
   have:s<listed.size:=by omega
   simp [this]
  ·rw [getD_set_ne false hks,hls k hk]
   by_cases h1:k<s
   ·simp [h1]; omega
   ·simp [h1]; omega
end
end Go.PF
namespace Go.PF
open Go.RowKit
theorem Sats.seven {e1 e2 e3 e4 e5 e6 e7:Ent} {vs:List Value} {w:World} (h:Sats [e1,e2,e3,e4,e5,e6,e7] vs w): ∃a b c d e f g,vs= [a,b,c,d,e,f,g]∧e1.sat a w∧e2.sat b w∧e3.sat c w∧e4.sat d w∧e5.sat e w∧e6.sat f w∧e7.sat g w:=by
 match vs,h with
 | [a,b,c,d,e,f,g],⟨h1,h2,h3,h4,h5,h6,h7,_⟩=>exact ⟨a,b,c,d,e,f,g,rfl,h1,h2,h3,h4,h5,h6,h7⟩
def Made (w0:World) (t:TypeId) (cs:List Value) (v:Value) (w:World):Prop:= ∃g,v= .pointer (some ⟨g,0,none⟩)∧w0.heap.size≤g∧Blk w g t cs
theorem Made.mono (w0:World) (t:TypeId) (cs:List Value):Ent.mono (.pr (Made w0 t cs)):=fun _ _ _ hb ⟨g,hv,hg,hB⟩=>⟨g,hv,hg,hB.next hb⟩
theorem DW.allocP {P:Program} {N:Nat} {ds:List Deferred} {ops rest:List Oper} {D:DE} {w:World} {Fin:DE→Prop} {d:Option Tmp} {ty:TypeId} {pos:String} {af:Array Edge} {t:TypeId} {cs:List Value} (hd:okDst N d=true) (hz:zeroCells P t=some cs)
  (next:DW P N ds .weak ops w Fin rest (dins D d none (.pr (Made w t cs)))):DW P N ds .weak ops w Fin (⟨d,.alloc t,ty,pos,af,none⟩::rest) D:=by
 refine DW.gen (G:=none) rfl hd rfl (Made.mono w t cs) (fun hG a w' hb ha=> ?_) next
 refine ⟨.pointer (some ⟨w'.heap.size,0,none⟩),w'.alloc (.cells cs.toArray t),?_,below_alloc w' _,w'.heap.size,rfl,hb.size,Blk.new w' t cs⟩
 unfold zeroCells at hz
 cases hi:P.info? t with
 | none=>simp [hi] at hz
 | some i =>
  cases hzz:i.zero with
  | none=>simp [hi,hzz] at hz
  | some zv =>
   simp [hi,hzz] at hz
   simp [execOp,Instr.alloc,zeroValue,typeInfo,hi,hzz,Go.newVar,newRow,←hz]
end Go.PF
namespace Go.PF
open Go.RowKit
theorem TW.storeRow1 {P:Program} {r:Option Nat} {Q:Exit→Act→World→Prop} {N:Nat} {ds:List Deferred} {ops rest:List Oper} {E:Env} {w:World} {ty:TypeId} {pos:String} {af:Array Edge} {gu:Option (Nat×Bool)} {x y:Operand}
  {t e:TypeId} {n c g j:Nat} {xs:List Value} {u:Value} (hg:gu=none) (hs:(P.info? t).map (·.size)=some 1) (hx:ev E x=some (none,.pointer (some (Addr.add ⟨g,0,none⟩ j)))) (hy:ev E y=some (none,u)) (hown:OwnS w e 1 (.slice (some ⟨g,0,none⟩) n c) n xs)
  (hj:j<xs.length) (h1:u.oneCell'=true) (next: ∀w',OwnS w' e 1 (.slice (some ⟨g,0,none⟩) n c) n (xs.set j u)→But g w w'→w'.heap.size=w.heap.size→TW P r Q N ds ops rest E w'):TW P r Q N ds ops (⟨none,.store t x y,ty,pos,af,gu⟩::rest) E w:=by
 obtain ⟨A,cap,hv,_,_,hc⟩:=hown.form
 obtain ⟨g',hA,hown',hcell,hfr⟩:=hc j xs[j] (List.getElem?_eq_getElem hj)
 simp [Value.ownBlock] at hown'
 subst hown'
 refine TW.store1 hg hs hx hy (by rw [addr0]; exact hcell) (by rw [addr0]; exact hfr) h1 ?_
 rw [addr0]
 exact next _ (hown.set rfl hj u) (grown_setCell w g _ u) (by simp)
theorem OwnS.cell1 {w:World} {e:TypeId} {n c g j:Nat} {xs:List Value} {u:Value} (h:OwnS w e 1 (.slice (some ⟨g,0,none⟩) n c) n xs) (hj:xs[j]?=some u):w.cell? (Addr.add ⟨g,0,none⟩ j)=some u:=by
 obtain ⟨A,cap,hv,_,_,hc⟩:=h.form
 obtain ⟨g',hA,hown',hcell,hfr⟩:=hc j u hj
 simp [Value.ownBlock] at hown'
 subst hown'
 rw [addr0]
 exact hcell
theorem OwnS.addr {w:World} {e:TypeId} {n c:Nat} {A:Option Addr} {xs:List Value} (h:OwnS w e 1 (.slice A n c) n xs) (hn:0<xs.length): ∃g,A=some ⟨g,0,none⟩:=by
 obtain ⟨A',cap,hv,_,_,hc⟩:=h.form
 obtain ⟨g',hA,_⟩:=hc 0 xs[0] (List.getElem?_eq_getElem hn)
 simp only [Value.slice.injEq] at hv
 rw [hv.1,hA]
 exact ⟨g',rfl⟩
end Go.PF
namespace Go.PF
open Go.RowKit
variable {α:Type}
theorem flatP_at (n:Nat): ∀(ps:List (List Value×α)),(∀p∈ps,p.1.length=n)→ ∀(i j:Nat) (p:List Value×α),ps[i]?=some p→j<n→(ps.flatMap (·.1))[i*n+j]?=p.1[j]? :=
 fun ps h i j p hp hj=>flat_at (fun p:List Value×α=>p.1) n ps h i j p hp hj
theorem OwnS.toSLp {T:Ty α} {F:Nat→Prop} {w:World} {e:TypeId} {v:Value} {n:Nat} (ps:List (List Value×α)) (hr: ∀p∈ps,T.rep F w p.1 p.2) (h0:0<T.n) (h:OwnS w e T.n v n (ps.flatMap (·.1))) (hn:n=ps.length) (hF: ∀g,v.ownBlock=some g→F g) (hb:ps.length≤9223372036854775807):SL T F w v (ps.map (·.2)):=by
 subst hn
 have hlen: ∀p∈ps,p.1.length=T.n:=fun p hp=>T.len _ _ _ _ (hr p hp)
 obtain ⟨A,cap,hv,h1,h2,h3⟩:=h.form
 refine ⟨A,cap,by simpa using hv,by simpa using h1,by simpa using hb,fun i x hx=> ?_⟩
 have hi:i<ps.length:=by have:=(List.getElem?_eq_some_iff.1 hx).1; simpa using this
 have hpi:ps[i]?=some ps[i]:=List.getElem?_eq_getElem hi
 have hx':ps[i].2=x:=by simp [hpi] at hx; exact hx
 have hl:=hlen _ (List.getElem_mem hi)
 obtain ⟨u0,hu0⟩: ∃u,ps[i].1[0]?=some u:=⟨ps[i].1[0]'(by omega),List.getElem?_eq_getElem (by omega)⟩
 have h00:=flatP_at T.n ps hlen i 0 _ hpi h0
 rw [hu0] at h00
 obtain ⟨g,hA,hown,_⟩:=h3 _ _ h00
 refine ⟨⟨g,0,none⟩,ps[i].1,hA,hF g hown,fun j u hj=> ?_,by rw [←hx']; exact hr _ (List.getElem_mem hi)⟩
 have hjn:j<T.n:=by rw [←hl]; exact (List.getElem?_eq_some_iff.1 hj).1
 obtain ⟨g',hA',_,hc,_⟩:=h3 (i*T.n+j) u (by rw [flatP_at T.n ps hlen i j _ hpi hjn]; exact hj)
 rw [hA] at hA'
 simp only [Option.some.injEq,Addr.mk.injEq] at hA'
 obtain ⟨rfl,_,_⟩:=hA'
 rw [add_add,addr0]
 exact hc
structure Ty.Nb {α:Type} (T:Ty α):Prop where
 pos:0<T.n
 nb: ∀F w cs x,T.rep F w cs x→T.rep (fun k=>F k∧k<w.heap.size) w cs x
theorem Ty.Nb.now {T:Ty α} (h:T.Nb):T.Now:=⟨h.pos,fun F w cs x hr=>T.wider _ _ _ _ _ (fun _ hb=>hb.2) (h.nb F w cs x hr)⟩
theorem intT_nb:Ty.Nb intT:=⟨by decide,fun _ _ _ _ h=>h⟩
theorem SL.nb {T:Ty α} (hT:T.Nb) {F:Nat→Prop} {w:World} {v:Value} {l:List α} (h:SL T F w v l):SL T (fun k=>F k∧k<w.heap.size) w v l:=by
 obtain ⟨A,cap,rfl,h1,h2,h3⟩:=h
 refine ⟨A,cap,rfl,h1,h2,fun i x hx=> ?_⟩
 obtain ⟨ad,cs,ha,hF,hc,hr⟩:=h3 i x hx
 refine ⟨ad,cs,ha,⟨hF,?_⟩,hc,hT.nb _ _ _ _ hr⟩
 have hl:=T.len _ _ _ _ hr
 have h0:0<cs.length:=by rw [hl]; exact hT.pos
 have:=block_lt_of_cell (hc 0 cs[0] (List.getElem?_eq_getElem h0))
 rwa [add_block,add_block] at this
def RowF (w:World) (v:Value) (k:Nat):Prop:=k<w.heap.size∧v.ownBlock≠some k
def RowL (T:Ty α) (w:World) (e:TypeId) (b:Nat) (v:Value) (ps:List (List Value×α)):Prop:=OwnS w e T.n v ps.length (ps.flatMap (·.1))∧(∀p∈ps,T.rep (RowF w v) w p.1 p.2)∧ ∀g,v.ownBlock=some g→b≤g
theorem RowL.nil (T:Ty α) (w:World) (e:TypeId) (b:Nat):RowL T w e b (.slice none 0 0) []:=⟨OwnS.nil _ _ _,(fun p hp=>by cases hp),fun g h=>by simp [Value.ownBlock] at h⟩
theorem RowL.big {T:Ty α} {w:World} {e:TypeId} {b:Nat} {v:Value} {ps:List (List Value×α)} (h:RowL T w e b v ps):ps.length≤9223372036854775807:=by
 rcases h.1.2 with ⟨rfl,h0⟩|⟨g,cap,cur,hv,hg,hh,ha,hb,hc,hd⟩
 ·omega
 ·simp only [maxLen] at hb
  omega
theorem RowL.sl {T:Ty α} (h0:0<T.n) {w:World} {e:TypeId} {b:Nat} {v:Value} {ps:List (List Value×α)} (h:RowL T w e b v ps):SL T (fun k=>k<w.heap.size) w v (ps.map (·.2)) :=
 OwnS.toSLp ps (fun p hp=>T.wider _ _ _ _ _ (fun _ hb=>hb.1) (h.2.1 p hp)) h0 h.1 rfl (fun g hg=>h.1.lt hg) h.big
theorem RowL.form {T:Ty α} {w:World} {e:TypeId} {b:Nat} {v:Value} {ps:List (List Value×α)} (h:RowL T w e b v ps): ∃A cap,v= .slice A ps.length cap:=by
 obtain ⟨A,cap,hv,_⟩:=h.1.form
 exact ⟨A,cap,hv⟩
theorem RowL.step {T:Ty α} {w w':World} {e:TypeId} {b:Nat} {v:Value} {ps:List (List Value×α)} (h:RowL T w e b v ps) (hb:Below w.heap.size w w'):RowL T w' e b v ps :=
 ⟨h.1.below hb,fun p hp=>T.wider _ _ _ _ _ (fun k hk=>⟨Nat.lt_of_lt_of_le hk.1 hb.size,hk.2⟩) (T.mono _ _ _ _ _ (Kept.of_below hb) (h.2.1 p hp)),h.2.2⟩
theorem RowL.less {T:Ty α} {w:World} {e:TypeId} {b b':Nat} {v:Value} {ps:List (List Value×α)} (h:RowL T w e b v ps) (hb:b'≤b):RowL T w e b' v ps:=⟨h.1,h.2.1,fun g hg=>Nat.le_trans hb (h.2.2 g hg)⟩
theorem RowL.app {T:Ty α} {w w':World} {e:TypeId} {b:Nat} {v v':Value} {ps:List (List Value×α)} {cs:List Value} {x:α} (h:RowL T w e b v ps) (hO:OwnS w' e T.n v' (ps.length+1) (ps.flatMap (·.1)++cs)) (hg:w.grownBy w' v.ownBlock) (hn:v'.ownBlock=v.ownBlock∨v'.ownBlock=some w.heap.size)
  (hr:T.rep (RowF w v) w cs x) (hb:b≤w.heap.size):RowL T w' e b v' (ps++ [(cs,x)]):=by
 have hk:Kept (RowF w v) w w':=Kept.of_blocks fun k hk hlt=>hg.block k hlt (fun e=>hk.2 e.symm)
 have hw: ∀k,RowF w v k→RowF w' v' k:=fun k hk=>⟨Nat.lt_of_lt_of_le hk.1 hg.size,fun e=>by
  rcases hn with h'|h'
  ·exact hk.2 (by rw [←h']; exact e)
  ·rw [h'] at e; cases e; exact absurd hk.1 (Nat.lt_irrefl _)⟩
 refine ⟨by rw [List.flatMap_append,List.length_append]; simpa using hO,fun p hp=> ?_,fun q hq=> ?_⟩
 ·rcases List.mem_append.1 hp with hp|hp
  ·exact T.wider _ _ _ _ _ hw (T.mono _ _ _ _ _ hk (h.2.1 p hp))
  ·rw [List.mem_singleton] at hp
   subst hp
   exact T.wider _ _ _ _ _ hw (T.mono _ _ _ _ _ hk hr)
 ·rcases hn with h'|h'
  ·exact h.2.2 q (by rw [←h']; exact hq)
  ·rw [h'] at hq; cases hq; exact hb
def PredI (P:Program) (w:World) (k:FuncId) (caps:List Value) (p:Int→Bool):Prop:= ∀x w',Below w.heap.size w w'→Gives P k (.int .i64 x::caps).toArray w' fun u w''=>Below w'.heap.size w' w''∧u= .bool (p x)
theorem PredI.step {P:Program} {w w':World} {k:FuncId} {caps:List Value} {p:Int→Bool} (h:PredI P w k caps p) (hb:Below w.heap.size w w'):PredI P w' k caps p:=fun x w2 h2=>h x w2 (hb.step h2)
end Go.PF
namespace Go.Ord
abbrev Dist:=List (List Int)
def at2 (d:Dist) (i j:Nat):Int:=(d.getD i []).getD j (-1)
structure WfD (d:Dist):Prop where
 few:d.length≤12
 row: ∀(i:Nat) (r:List Int),d[i]?=some r→r.length=d.length
 diag: ∀i,i<d.length→at2 d i i=0
 rng: ∀i j,i<d.length→j<d.length→ -1≤at2 d i j∧at2 d i j≤1000000
 tri: ∀i k j,i<d.length→k<d.length→j<d.length→at2 d i k≠ -1→at2 d k j≠ -1→at2 d i j≠ -1∧at2 d i j≤at2 d i k+at2 d k j
structure U where
 low:Int
 high:Int
 span:Int
 entry:Nat
 exit:Nat
structure UOK (d:Dist) (u:U):Prop where
 e1:u.entry<d.length
 e2:u.exit<d.length
 way:at2 d u.entry u.exit≠ -1
 long:at2 d u.entry u.exit≤u.span
abbrev St:=Option Nat×Int
def far (d:Dist):Option Nat→U→Int
 | none,_=>0
 | some x,u=>at2 d x u.entry
def CanB (d:Dist) (s:St) (u:U):Prop:=far d s.1 u≠ -1∧s.2+far d s.1 u≤u.high
def beg (d:Dist) (s:St) (u:U):Int:=max u.low (s.2+far d s.1 u)
def nxt (d:Dist) (s:St) (u:U):St:=(some u.exit,beg d s u+u.span)
def Run (d:Dist):St→List U→Prop
 | _,[]=>True
 | s,u::us=>CanB d s u∧Run d (nxt d s u) us
def fin (d:Dist):St→List U→St
 | s,[]=>s
 | s,u::us=>fin d (nxt d s u) us
def SOK (d:Dist) (s:St):Prop:= ∀x,s.1=some x→x<d.length
variable {d:Dist}
theorem Run.append {s:St} {a b:List U}:Run d s (a++b)↔Run d s a∧Run d (fin d s a) b:=by
 induction a generalizing s with
 | nil=>simp [Run,fin]
 | cons u a ih=>simp only [List.cons_append,Run,fin,ih,and_assoc]
theorem fin_append {s:St} {a b:List U}:fin d s (a++b)=fin d (fin d s a) b:=by
 induction a generalizing s with
 | nil=>rfl
 | cons u a ih=>simp only [List.cons_append,fin,ih]
def Better (d:Dist) (s s':St):Prop:= ∀u,UOK d u→far d s'.1 u≠ -1→far d s.1 u≠ -1∧s.2+far d s.1 u≤s'.2+far d s'.1 u
theorem Better.can {s s':St} (h:Better d s s') {u:U} (hu:UOK d u) (hc:CanB d s' u):CanB d s u:=by
 obtain ⟨h1,h2⟩:=h u hu hc.1
 exact ⟨h1,Int.le_trans h2 hc.2⟩
theorem better_time {o:Option Nat} {t t':Int} (h:t≤t'):Better d (o,t) (o,t'):=fun u _ hf=>⟨hf,by show t+far d o u≤t'+far d o u; omega⟩
theorem Better.nxt {s s':St} (h:Better d s s') {u:U} (hu:UOK d u) (hc:CanB d s' u):Better d (Ord.nxt d s u) (Ord.nxt d s' u):=by
 refine better_time ?_
 obtain ⟨_,h2⟩:=h u hu hc.1
 unfold beg
 omega
theorem Better.run {s s':St} (h:Better d s s'): ∀ {us:List U},(∀u∈us,UOK d u)→Run d s' us→Run d s us
 | [],_,_=>trivial
 | u::us,hu,hr=>⟨h.can (hu u (by simp)) hr.1,(h.nxt (hu u (by simp)) hr.1).run (fun x hx=>hu x (by simp [hx])) hr.2⟩
theorem at2_nonneg (hd:WfD d) {i j:Nat} (hi:i<d.length) (hj:j<d.length) (h:at2 d i j≠ -1):0≤at2 d i j:=by
 have:=(hd.rng i j hi hj).1
 omega
theorem span_nonneg (hd:WfD d) {u:U} (hu:UOK d u):0≤u.span:=by
 have:=at2_nonneg hd hu.e1 hu.e2 hu.way
 have:=hu.long
 omega
theorem better_via (hd:WfD d) {s:St} (hs:SOK d s) {a:U} (ha:UOK d a) (hc:CanB d s a):Better d s (nxt d s a):=by
 intro u hu hf
 have hf':at2 d a.exit u.entry≠ -1:=hf
 have hsp:=span_nonneg hd ha
 have h0:=at2_nonneg hd ha.e2 hu.e1 hf'
 have hlow:s.2+far d s.1 a≤beg d s a:=by unfold beg; omega
 show far d s.1 u≠ -1∧s.2+far d s.1 u≤(beg d s a+a.span)+at2 d a.exit u.entry
 obtain ⟨o,t⟩:=s
 cases o with
 | none =>
  simp only [far] at *
  exact ⟨by decide,by omega⟩
 | some x =>
  have hx:x<d.length:=hs x rfl
  have h1:at2 d x a.entry≠ -1:=hc.1
  obtain ⟨q1,q2⟩:=hd.tri x a.entry a.exit hx ha.e1 ha.e2 h1 ha.way
  obtain ⟨r1,r2⟩:=hd.tri x a.exit u.entry hx ha.e2 hu.e1 q1 hf'
  have:=ha.long
  simp only [far] at *
  exact ⟨r1,by omega⟩
theorem sok_nxt {s:St} {a:U} (ha:UOK d a):SOK d (nxt d s a):=fun x hx=>by
 simp only [nxt,Option.some.injEq] at hx
 rw [←hx]; exact ha.e2
theorem sok_fin {s:St} (hs:SOK d s): ∀ {us:List U},(∀u∈us,UOK d u)→SOK d (fin d s us)
 | [],_=>hs
 | u::us,hu=>sok_fin (sok_nxt (hu u (by simp))) (fun x hx=>hu x (by simp [hx]))
theorem run_can (hd:WfD d): ∀ {pre:List U} {s:St} {u:U} {post:List U},SOK d s→(∀x∈pre++u::post,UOK d x)→Run d s (pre++u::post)→CanB d s u
 | [],s,u,post,_,_,hr=>hr.1
 | a::pre,s,u,post,hs,hu,hr=>by
  have ha:=hu a (by simp)
  have h1:=run_can hd (pre:=pre) (sok_nxt ha) (fun x hx=>hu x (by simp at hx ⊢; exact .inr hx)) hr.2
  exact (better_via hd hs ha hr.1).can (hu u (by simp)) h1
theorem run_drop (hd:WfD d): ∀ {pre:List U} {s:St} {u:U} {post:List U},SOK d s→(∀x∈pre++u::post,UOK d x)→Run d s (pre++u::post)→Run d s (pre++post)
 | [],s,u,post,hs,hu,hr=>(better_via hd hs (hu u (by simp)) hr.1).run (fun x hx=>hu x (by simp at hx ⊢; exact .inr hx)) hr.2
 | a::pre,s,u,post,hs,hu,hr=>⟨hr.1,run_drop hd (sok_nxt (hu a (by simp))) (fun x hx=>hu x (by simp at hx ⊢; exact .inr hx)) hr.2⟩
def Fits (d:Dist) (u v:U):Prop:=CanB d (some u.exit,u.low+u.span) v
theorem run_fits (hd:WfD d) {s:St} {pre mid post:List U} {u v:U} (hs:SOK d s) (hu: ∀x∈pre++u::(mid++v::post),UOK d x) (hr:Run d s (pre++u::(mid++v::post))):Fits d u v:=by
 rw [Run.append] at hr
 have hs':=sok_fin hs (us:=pre) (fun x hx=>hu x (by simp [hx]))
 have h1:=run_can hd (pre:=mid) (sok_nxt (s:=fin d s pre) (hu u (by simp))) (fun x hx=>hu x (by simp at hx ⊢; exact .inr (.inr hx))) hr.2.2
 refine (better_time (o:=some u.exit) (t:=u.low+u.span) (t':=beg d (fin d s pre) u+u.span) ?_).can (hu v (by simp)) h1
 unfold beg
 omega
def Free (d:Dist) (s:St) (u:U):Prop:=s.1=some u.entry∧u.exit=u.entry∧u.span=0∧CanB d s u∧beg d s u=s.2
theorem free_nxt {s:St} {u:U} (h:Free d s u):nxt d s u=s:=by
 obtain ⟨h1,h2,h3,_,h5⟩:=h
 unfold nxt
 rw [h2,h3,h5,←h1]
 obtain ⟨o,t⟩:=s
 simp
theorem free_first (hd:WfD d) {pre post:List U} {s:St} {u:U} (hs:SOK d s) (hu: ∀x∈pre++u::post,UOK d x) (hf:Free d s u) (hr:Run d s (pre++u::post)):Run d s (u::(pre++post)) :=
 ⟨hf.2.2.2.1,by rw [free_nxt hf]; exact run_drop hd hs hu hr⟩
def Feas (d:Dist) (s:St) (us:List U):Prop:= ∃l,l.Perm us∧Run d s l
theorem Feas.can (hd:WfD d) {s:St} {us:List U} (hs:SOK d s) (hu: ∀x∈us,UOK d x) (h:Feas d s us) {u:U} (hm:u∈us):CanB d s u:=by
 obtain ⟨l,hp,hr⟩:=h
 obtain ⟨pre,post,rfl⟩:=List.append_of_mem (hp.mem_iff.2 hm)
 exact run_can hd hs (fun x hx=>hu x (hp.mem_iff.1 hx)) hr
theorem Feas.better {s s':St} {us:List U} (hb:Better d s s') (hu: ∀x∈us,UOK d x) (h:Feas d s' us):Feas d s us:=by
 obtain ⟨l,hp,hr⟩:=h
 exact ⟨l,hp,hb.run (fun x hx=>hu x (hp.mem_iff.1 hx)) hr⟩
def left (us:List U) (m:Nat):List U:=(List.range us.length).filterMap fun i=>if m.testBit i then none else us[i]?
theorem left_zero (us:List U):left us 0=us:=by
 unfold left
 have: ∀k,k≤us.length→(List.range k).filterMap (fun i=>if (0:Nat).testBit i then none else us[i]?)=us.take k:=by
  intro k
  induction k with
  | zero=>intro _; rfl
  | succ k ih =>
   intro hk
   rw [List.range_succ,List.filterMap_append,ih (by omega),List.take_add_one]
   simp [List.getElem?_eq_getElem (show k<us.length by omega)]
 rw [this us.length (Nat.le_refl _),List.take_length]
theorem mem_left {us:List U} {m:Nat} {u:U}:u∈left us m↔ ∃i,m.testBit i=false∧us[i]?=some u:=by
 unfold left
 rw [List.mem_filterMap]
 constructor
 ·rintro ⟨i,_,h⟩
  split at h
  ·cases h
  ·rename_i hm; exact ⟨i,by simpa using hm,h⟩
 ·rintro ⟨i,hm,h⟩
  exact ⟨i,by simpa using (List.getElem?_eq_some_iff.1 h).1,by simp [hm,h]⟩
theorem left_cons {us:List U} {m i:Nat} {u:U} (hm:m.testBit i=false) (hu:us[i]?=some u):(left us m).Perm (u::left us (m ||| 1 <<< i)):=by
 have hi:=(List.getElem?_eq_some_iff.1 hu).1
 have key: ∀k,k≤us.length→((List.range k).filterMap fun j=>if m.testBit j then none else us[j]?).Perm ((if i<k then [u] else [])++(List.range k).filterMap fun j=>if (m ||| 1 <<< i).testBit j then none else us[j]?):=by
  intro k
  induction k with
  | zero=>intro _; simp
  | succ k ih =>
   intro hk
   rw [List.range_succ,List.filterMap_append,List.filterMap_append]
   have ih:=ih (by omega)
   have hbit:(m ||| 1 <<< i).testBit k=(m.testBit k||decide (i=k)):=by
    rw [Nat.testBit_or,Nat.one_shiftLeft,Nat.testBit_two_pow]
   by_cases hik:i=k
   ·subst hik
    rw [if_neg (by omega)] at ih
    rw [if_pos (by omega)]
    simp only [List.filterMap_cons,List.filterMap_nil,hbit,hm,hu]
    simp
    refine (ih.append_right [u]).trans ?_
    simp
   ·have e1:(if i<k+1 then [u] else [])=(if i<k then [u] else []:List U):=by
     by_cases h:i<k
     ·rw [if_pos h,if_pos (by omega)]
     ·rw [if_neg h,if_neg (by omega)]
    have e2:(m ||| 1 <<< i).testBit k=m.testBit k:=by rw [hbit]; simp [hik]
    rw [e1,←List.append_assoc]
    refine (ih.append_right _).trans ?_
    simp only [List.filterMap_cons,List.filterMap_nil,e2]
    exact List.Perm.refl _
 have:=key us.length (Nat.le_refl _)
 rw [if_pos hi] at this
 exact this
def FirstOK (d:Dist) (us:List U) (F:Nat→Nat):Prop:= ∀(i j:Nat) (u v:U),us[i]?=some u→us[j]?=some v→((F i).testBit j=true↔i≠j∧ ¬Fits d u v)
theorem feas_all (hd:WfD d) {us:List U} (hu: ∀u∈us,UOK d u) {s:St} (hs:SOK d s) {m:Nat} (h:Feas d s (left us m)) {i:Nat} {u:U} (hm:m.testBit i=false) (hi:us[i]?=some u):CanB d s u :=
 h.can hd hs (fun x hx=>by obtain ⟨j,_,hj⟩:=mem_left.1 hx; exact hu x (List.mem_of_getElem? hj)) (mem_left.2 ⟨i,hm,hi⟩)
theorem feas_free (hd:WfD d) {us:List U} (hu: ∀u∈us,UOK d u) {s:St} (hs:SOK d s) {m:Nat} (h:Feas d s (left us m)) {i:Nat} {u:U} (hm:m.testBit i=false) (hi:us[i]?=some u) (hf:Free d s u):Feas d (nxt d s u) (left us (m ||| 1 <<< i)):=by
 obtain ⟨l,hp,hr⟩:=h
 have hul:u∈l:=hp.mem_iff.2 (mem_left.2 ⟨i,hm,hi⟩)
 obtain ⟨pre,post,rfl⟩:=List.append_of_mem hul
 have h1:=free_first hd hs (fun x hx=>by obtain ⟨j,_,hj⟩:=mem_left.1 (hp.mem_iff.1 hx); exact hu x (List.mem_of_getElem? hj)) hf hr
 refine ⟨pre++post,?_,h1.2⟩
 have:=(List.perm_middle.symm.trans hp).trans (left_cons hm hi)
 exact List.Perm.cons_inv this
theorem feas_head (hd:WfD d) {us:List U} (hu: ∀u∈us,UOK d u) {F:Nat→Nat} (hF:FirstOK d us F) {s:St} (hs:SOK d s) {m:Nat} (h:Feas d s (left us m)) (hne: ∃i,i<us.length∧m.testBit i=false) :
  ∃ i u,us[i]?=some u∧m.testBit i=false∧(∀j,j<us.length→(F i).testBit j=true→m.testBit j=true)∧Feas d (nxt d s u) (left us (m ||| 1 <<< i)):=by
 obtain ⟨l,hp,hr⟩:=h
 have hall: ∀x∈l,UOK d x:=fun x hx=>by obtain ⟨j,_,hj⟩:=mem_left.1 (hp.mem_iff.1 hx); exact hu x (List.mem_of_getElem? hj)
 cases l with
 | nil =>
  obtain ⟨i,hi,hm⟩:=hne
  have:us[i]∈left us m:=mem_left.2 ⟨i,hm,List.getElem?_eq_getElem hi⟩
  have:=hp.mem_iff.2 this
  cases this
 | cons u l =>
  obtain ⟨i,hm,hi⟩:=mem_left.1 (hp.mem_iff.1 (List.mem_cons_self ..))
  have hpl:l.Perm (left us (m ||| 1 <<< i)):=List.Perm.cons_inv (hp.trans (left_cons hm hi))
  refine ⟨i,u,hi,hm,fun j hj hb=> ?_,l,hpl,hr.2⟩
  cases hmj:m.testBit j with
  | true=>rfl
  | false =>
   exfalso
   have hv:us[j]?=some us[j]:=List.getElem?_eq_getElem hj
   obtain ⟨hij,hnf⟩:=(hF i j u us[j] hi hv).1 hb
   have hvl:us[j]∈l:=hpl.mem_iff.2 (mem_left.2 ⟨j,by rw [Nat.testBit_or,Nat.one_shiftLeft,Nat.testBit_two_pow,hmj]; simp [hij],hv⟩)
   obtain ⟨pre,post,rfl⟩:=List.append_of_mem hvl
   exact hnf (run_fits hd (pre:= []) (mid:=pre) (post:=post) hs (by simpa using hall) (by simpa using hr))
theorem feas_pair (hd:WfD d) {us:List U} (hu: ∀u∈us,UOK d u) {s:St} (hs:SOK d s) (h:Feas d s us) {i j:Nat} {u v:U} (hi:us[i]?=some u) (hj:us[j]?=some v) (hij:i≠j):Fits d u v∨Fits d v u:=by
 obtain ⟨l,hp,hr⟩:=h
 have hall: ∀x∈l,UOK d x:=fun x hx=>hu x (hp.mem_iff.1 hx)
 have h2: ∃pre mid post,l=pre++u::(mid++v::post)∨l=pre++v::(mid++u::post):=by
  have e1:=left_cons (us:=us) (m:=0) (i:=i) (by simp) hi
  rw [left_zero] at e1
  have e2:=left_cons (us:=us) (m:=0 ||| 1 <<< i) (i:=j) (by rw [Nat.testBit_or,Nat.one_shiftLeft,Nat.testBit_two_pow]; simp [hij]) hj
  have hl:=hp.trans (e1.trans (e2.cons u))
  have hul:u∈l:=hl.mem_iff.2 (by simp)
  obtain ⟨pre,post,rfl⟩:=List.append_of_mem hul
  have h3:(pre++post).Perm (v::left us (0 ||| 1 <<< i ||| 1 <<< j)):=List.Perm.cons_inv (List.perm_middle.symm.trans hl)
  have hv:v∈pre++post:=h3.mem_iff.2 (by simp)
  rcases List.mem_append.1 hv with h|h
  ·obtain ⟨a,b,rfl⟩:=List.append_of_mem h
   exact ⟨a,b,post,.inr (by simp)⟩
  ·obtain ⟨a,b,rfl⟩:=List.append_of_mem h
   exact ⟨pre,a,b,.inl (by simp)⟩
 obtain ⟨pre,mid,post,h|h⟩:=h2
 ·subst h; exact .inl (run_fits hd hs hall hr)
 ·subst h; exact .inr (run_fits hd hs hall hr)
end Go.Ord
namespace Go.Ord
variable {d:Dist}
abbrev UB:=U×Int
def Bef (d:Dist) (a c:UB):Prop:=at2 d a.1.exit c.1.entry≠ -1∧a.2+a.1.span+at2 d a.1.exit c.1.entry≤c.2
theorem Bef.trans (hd:WfD d) {a b c:UB} (ha:UOK d a.1) (hb:UOK d b.1) (hc:UOK d c.1) (h1:Bef d a b) (h2:Bef d b c):Bef d a c:=by
 obtain ⟨p1,p2⟩:=hd.tri _ _ _ ha.e2 hb.e1 hb.e2 h1.1 hb.way
 obtain ⟨q1,q2⟩:=hd.tri _ _ _ ha.e2 hb.e2 hc.e1 p1 h2.1
 refine ⟨q1,?_⟩
 have:=h1.2
 have:=h2.2
 have:=hb.long
 omega
theorem run_of_times: ∀ {l:List UB} {s:St},(∀x∈l,x.1.low≤x.2∧x.2≤x.1.high)→l.Pairwise (Bef d)→(∀x,l.head?=some x→far d s.1 x.1≠ -1∧s.2+far d s.1 x.1≤x.2)→Run d s (l.map (·.1))
 | [],_,_,_,_=>trivial
 | a::l,s,hw,hp,hh=>by
  obtain ⟨h1,h2⟩:=hh a rfl
  obtain ⟨w1,w2⟩:=hw a (by simp)
  rw [List.pairwise_cons] at hp
  refine ⟨⟨h1,by show s.2+far d s.1 a.1≤a.1.high; omega⟩,run_of_times (fun x hx=>hw x (by simp [hx])) hp.2 fun x hx=> ?_⟩
  have hb:=hp.1 x (by cases l with|nil=>cases hx|cons y l=>simp at hx; subst hx; simp)
  refine ⟨hb.1,?_⟩
  show beg d s a.1+a.1.span+at2 d a.1.exit x.1.entry≤x.2
  have:=hb.2
  have:beg d s a.1≤a.2:=by unfold beg; omega
  omega
open Classical in
theorem feas_of_times (hd:WfD d) {l:List UB} (hu: ∀x∈l,UOK d x.1) (hw: ∀x∈l,0≤x.2∧x.1.low≤x.2∧x.2≤x.1.high) (hp:l.Pairwise fun a b=>Bef d a b∨Bef d b a):Feas d (none,0) (l.map (·.1)):=by
 have key: ∀l:List UB,(∀x∈l,UOK d x.1)→l.Pairwise (fun a b=>Bef d a b∨Bef d b a)→ ∃l':List UB,l'.Perm l∧l'.Pairwise (Bef d):=by
  intro l
  induction l with
  | nil=>intro _ _; exact ⟨[],List.Perm.refl _,List.Pairwise.nil⟩
  | cons a l ih =>
   intro hu hp
   rw [List.pairwise_cons] at hp
   obtain ⟨l',hp',hs'⟩:=ih (fun x hx=>hu x (by simp [hx])) hp.2
   refine ⟨l'.takeWhile (fun x=>decide (Bef d x a))++a::l'.dropWhile (fun x=>decide (Bef d x a)),?_,?_⟩
   ·refine List.perm_middle.trans ?_
    rw [List.takeWhile_append_dropWhile]
    exact hp'.cons a
   ·have hsplit:l'.takeWhile (fun x=>decide (Bef d x a))++l'.dropWhile (fun x=>decide (Bef d x a))=l':=List.takeWhile_append_dropWhile
    have hall: ∀x∈l',UOK d x.1:=fun x hx=>hu x (by simp [hp'.mem_iff.1 hx])
    have hor: ∀x∈l',Bef d x a∨Bef d a x:=fun x hx=>(hp.1 x (hp'.mem_iff.1 hx)).symm
    rw [←hsplit,List.pairwise_append] at hs'
    obtain ⟨q1,q2,q3⟩:=hs'
    have hT: ∀x∈l'.takeWhile (fun x=>decide (Bef d x a)),Bef d x a:=by
     have: ∀(m:List UB),∀x∈m.takeWhile (fun x=>decide (Bef d x a)),Bef d x a:=by
      intro m
      induction m with
      | nil=>simp
      | cons y m ihm =>
       intro x hx
       rw [List.takeWhile_cons] at hx
       split at hx
       ·rename_i hy
        rcases List.mem_cons.1 hx with rfl|hx
        ·exact of_decide_eq_true hy
        ·exact ihm x hx
       ·cases hx
     exact this l'
    have hD: ∀x∈l'.dropWhile (fun x=>decide (Bef d x a)),Bef d a x:=by
     cases hDc:l'.dropWhile (fun x=>decide (Bef d x a)) with
     | nil=>simp
     | cons y m =>
      have hym: ∀x∈y::m,x∈l':=fun x hx=>by rw [←hsplit,hDc]; simp at hx ⊢; exact .inr hx
      have hy: ¬Bef d y a:=by
       have:=List.head?_dropWhile_not (fun x=>decide (Bef d x a)) l'
       rw [hDc] at this
       simpa using this
      have hay:Bef d a y:=(hor y (hym y (by simp))).resolve_left hy
      rw [hDc,List.pairwise_cons] at q2
      intro x hx
      rcases List.mem_cons.1 hx with rfl|hx
      ·exact hay
      ·exact hay.trans hd (hu a (by simp)) (hall y (hym y (by simp))) (hall x (hym x (by simp [hx]))) (q2.1 x hx)
    rw [List.pairwise_append]
    refine ⟨q1,List.pairwise_cons.2 ⟨hD,q2⟩,fun x hx y hy=> ?_⟩
    rcases List.mem_cons.1 hy with rfl|hy
    ·exact hT x hx
    ·exact q3 x hx y hy
 obtain ⟨l',hp',hs'⟩:=key l hu hp
 refine ⟨l'.map (·.1),hp'.map _,run_of_times (fun x hx=>(hw x (hp'.mem_iff.1 hx)).2) hs' fun x hx=> ?_⟩
 have hm:x∈l:=hp'.mem_iff.1 (by cases l' with|nil=>cases hx|cons y m=>simp at hx; subst hx; simp)
 refine ⟨by simp [far],?_⟩
 have:=(hw x hm).1
 simp [far]
 omega
theorem times_of_run (hd:WfD d): ∀ {us:List U} {s:St},SOK d s→0≤s.2→(∀u∈us,UOK d u)→(∀u∈us,u.low≤u.high)→Run d s us →
  ∃ l:List UB,l.map (·.1)=us∧(∀x∈l,0≤x.2∧x.1.low≤x.2∧x.2≤x.1.high∧far d s.1 x.1≠ -1∧s.2+far d s.1 x.1≤x.2)∧l.Pairwise (Bef d)
 | [],s,_,_,_,_,_=>⟨[],rfl,by simp,List.Pairwise.nil⟩
 | u::us,s,hs,h0,hu,hw,hr=>by
  have hok:=hu u (by simp)
  have hsp:=span_nonneg hd hok
  have hfar:0≤far d s.1 u:=by
   have h1:=hr.1.1
   obtain ⟨o,t⟩:=s
   cases o with
   | none=>simp [far]
   | some x=>exact at2_nonneg hd (hs x rfl) hok.e1 h1
  have hbeg:s.2+far d s.1 u≤beg d s u:=by unfold beg; omega
  obtain ⟨l,h1,h2,h3⟩:=times_of_run hd (us:=us) (s:=nxt d s u) (sok_nxt hok) (by show 0≤beg d s u+u.span; omega) (fun x hx=>hu x (by simp [hx])) (fun x hx=>hw x (by simp [hx])) hr.2
  refine ⟨(u,beg d s u)::l,by simp [h1],?_,List.pairwise_cons.2 ⟨fun x hx=> ?_,h3⟩⟩
  ·intro x hx
   rcases List.mem_cons.1 hx with rfl|hx
   ·have h4:=hr.1.2
    have h5:=hw u (by simp)
    refine ⟨by show 0≤beg d s u; omega,by show u.low≤beg d s u; unfold beg; omega,by show beg d s u≤u.high; unfold beg; omega,hr.1.1,hbeg⟩
   ·obtain ⟨a1,a2,a3,a4,a5⟩:=h2 x hx
    have hxu:UOK d x.1:=hu x.1 (by rw [←h1]; simp; exact .inr ⟨x.2,hx⟩)
    obtain ⟨b1,b2⟩:=better_via hd hs hok hr.1 x.1 hxu a4
    exact ⟨a1,a2,a3,b1,by omega⟩
  ·obtain ⟨a1,a2,a3,a4,a5⟩:=h2 x hx
   exact ⟨a4,a5⟩
theorem times_of_feas (hd:WfD d) {us:List U} (hu: ∀u∈us,UOK d u) (hw: ∀u∈us,u.low≤u.high) (h:Feas d (none,0) us) :
  ∃ l:List UB,(l.map (·.1)).Perm us∧(∀x∈l,0≤x.2∧x.1.low≤x.2∧x.2≤x.1.high)∧l.Pairwise (Bef d):=by
 obtain ⟨o,hp,hr⟩:=h
 obtain ⟨l,h1,h2,h3⟩:=times_of_run hd (us:=o) (s:=(none,0)) (fun x hx=>by cases hx) (Int.le_refl _) (fun u hu'=>hu u (hp.mem_iff.1 hu')) (fun u hu'=>hw u (hp.mem_iff.1 hu')) hr
 exact ⟨l,by rw [h1]; exact hp,fun x hx=>⟨(h2 x hx).1,(h2 x hx).2.1,(h2 x hx).2.2.1⟩,h3⟩
end Go.Ord
