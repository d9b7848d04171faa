/- Texts of this claim,joined. -/
import Derived.Test.YtoleahhfkpkcjaaGreatDoorQG
import Derived.Laws.Bits64
import Derived.Laws.IdiomCopy
import Derived.Lib.AppendZerosOnto
import Derived.Lib.Overlaps
import Derived.Shelf.Strings.FuncGrows
import Derived.Shelf.SlSortCmp.WholeK
import Derived.Ground.SlsfProg
import Derived.Shelf.Strings.OnBuilder
import Derived.Shelf.LaysM
import Derived.Shelf.Strconv.Itoa3
import Derived.Shelf.Sort.Plain
import Derived.Shelf.Slices.CompactI
import Derived.Shelf.Slices.In.SortNone
import Derived.Test.YtoleahhfkpkcjaaGreatDoorProg
set_option linter.unusedSimpArgs false
set_option linter.unusedVariables false
set_option maxRecDepth 100000
set_option maxHeartbeats 4000000
variable {w w':Go.World} {F S G:Nat->Prop} {v u:Go.Value} {n i m sz g c b:Nat} {t e t':Go.TypeId} {l:List Go.Ord.Sc} {s k:ByteArray} {xs cs caps:List Go.Value} {r:List Go.Ord.Rc} {x:Go.Ord.Rc} {ys:List ByteArray} {o:Option Nat}
namespace Go.Proofs.YtoleahhfkpkcjaaGreatDoor
open Go.Proofs.Tryz
open Go.PF Go.RowKit Go.Ord
attribute [local irreducible] TW CW KW DW
def mD (a b:Rc):Nat->Int
 | 0=>jP a.scn b.scn
 | 1=>jP a.num b.num
 | 2=>jP a.kind b.kind
 | 3=>jP a.time b.time
 | 4=>ic a.label b.label
 | 5=>jP a.cont.length b.cont.length
 | _=>ow a.cont b.cont
theorem Az {a b:Rc} (p:i<7) (f: ∀j,j<i->mD a b j=0) (h:mD a b i≠0):mI a b=mD a b i:=by
 have c:=f 0;have d:=f 1;have g:=f 2;have k:=f 3;have l:=f 4;have o:=f 5;rw [Il];simp only [mD] at c d g k l o;have e: ∀m n:Int,kD m n=jP m n:=λ_ _=>rfl;simp only [e]
 match i,p with
 | 0,_=>simp only [mD] at h ⊢; rw [if_pos h]
 | 1,_=>simp only [mD] at h ⊢; rw [c ZL,if_pos h]; simp
 | 2,_=>simp only [mD] at h ⊢; rw [c ZL,d ZL,if_pos h]; simp
 | 3,_=>simp only [mD] at h ⊢; rw [c ZL,d ZL,g ZL,if_pos h]; simp
 | 4,_=>simp only [mD] at h ⊢; rw [c ZL,d ZL,g ZL,k ZL,if_pos h]; simp
 | 5,_=>simp only [mD] at h ⊢; rw [c ZL,d ZL,g ZL,k ZL,l ZL,if_pos h]; simp
 | 6,_=>simp only [mD]; rw [c ZL,d ZL,g ZL,k ZL,l ZL,o ZL]; simp
theorem H9 {a b:Rc} (c: ∀j,j<7->mD a b j=0):mI a b=0:=by
 by_cases h:mD a b 6=0
 .rw [Il];have e: ∀m n:Int,kD m n=jP m n:=λ_ _=>rfl;have d:=c 0 ZL;have f:=c 1 ZL;have g:=c 2 ZL;have i:=c 3 ZL;have k:=c 4 ZL;have l:=c 5 ZL;simp only [mD] at d f g i k l h;simp only [e,d,f,g,i,k,l,h];simp
 .exact absurd (c 6 ZL) h
theorem xB {a b:Rc} (ha:RcOK F w u a) (hb:RcOK G w v b):Gives prog 62 #[.agg (iq a u).toArray,.agg (iq b v).toArray] w λx c=>ZT w c/\w.drawn<=c.drawn/\x= ZU (mI a b):=by
 refine gw func62 ntmps62 ?_;refine nw rfl λh1 w1 s=> ?_;refine nw rfl λh2 w2 t=> ?_;refine cr rfl TH λx H I e=> ?_;obtain ⟨M,N,O,R,S,U,rfl,Y,Z,B3,B4,B5⟩:=e;refine UR [2,3,8] 9 7 (λi W=>H.drawn<=W.drawn/\ ∀j,j<i->mD a b j=0) ⟨ZC,λj h=>ZJ⟩ ?_;rintro i W hi y ⟨hd,z⟩;have A:=Nat.le_trans s.drawn (Nat.le_trans t.drawn (Nat.le_trans M hd));refine cd rfl (λa0=> ?_) λa1=> ?_
 .have p:i<7:=ZJ;have hx: ∃r n,[Value.func (.func 190) #[] #[.pointer (some ⟨N,0,none⟩)],.func (.func 190) #[] #[.pointer (some ⟨O,0,none⟩)],.func (.func 190) #[] #[.pointer (some ⟨R,0,none⟩)],.func (.func 190) #[] #[.pointer (some ⟨S,0,none⟩)],.func (.func 196) #[] #[],.func (.func 190) #[] #[.pointer (some ⟨U,0,none⟩)],.func (.func 199) #[] #[]][i]?=some (Value.func (.func r) #[] (List.toArray n))/\enters prog r=true/\ ∀c,ZT W c->Gives prog r ([Value.agg (iq a u).toArray,Value.agg (iq b v).toArray]++n).toArray c λx l=>ZT c l/\c.drawn<=l.drawn/\x= ZU (mD a b i):=by
   have J:=ha.below ((s.below.step (t.below.step I)).step y);have K:=hb.below ((s.below.step (t.below.step I)).step y);have m: ∀ {k:FuncId} {φ:Rc->Int} {g:Nat},enters prog k=true->Keyed k φ->Blk H g 257 [.func (.func k) #[] #[]]-> ∀c,ZT W c->Gives prog 190 #[.agg (iq a u).toArray,.agg (iq b v).toArray,.pointer (some ⟨g,0,none⟩)] c λx l=>ZT c l/\c.drawn<=l.drawn/\x= ZU (jP (φ a) (φ b)):=λB hk hB c d=>P6 B hk (J.below d) (K.below d) ((hB.next y).next d)
   match i,p with
   | 0,_=>exact ⟨_,[_],rfl,ZK,m ZK Tc Y⟩
   | 1,_=>exact ⟨_,[_],rfl,ZK,m ZK S9 Z⟩
   | 2,_=>exact ⟨_,[_],rfl,ZK,m ZK S8 B3⟩
   | 3,_=>exact ⟨_,[_],rfl,ZK,m ZK S7 B4⟩
   | 4,_=>exact ⟨_,[],rfl,ZK,λc _=>SY⟩
   | 5,_=>exact ⟨_,[_],rfl,ZK,m ZK SX B5⟩
   | 6,_=>exact ⟨_,[],rfl,ZK,λc d=>SV (J.below d) (K.below d)⟩
  obtain ⟨r,n,o,C,D⟩:=hx;refine KA underlying179 underlying178 is178.q rfl ZJ o ?_;refine nv Q0 rfl λh3 w4 L=> ?_;refine Xo C rfl (D _ L.below) λu5 w5 b5 e5=> ?_;obtain ⟨d5,rfl⟩:=e5;have d4:=L.drawn;refine rn ?_;refine cd rfl (λE=> ?_) λB=> ?_
  .exact aO rfl ⟨bK,ZJ,by rw [Az p z E]⟩
  refine ou ⟨ZJ,λj hj=> ?_⟩;rcases ZI j i with h|h
  .exact z j h
  .obtain rfl:j=i:=ZJ;simpa using B
 exact aO rfl ⟨bK,A,by rw [H9 λj hj=>z j ZJ]⟩
theorem rf {a b:Rc} (d:RcOK F w u a) (hb:RcOK G w v b):Gives prog 62 #[.agg (iq a u).toArray,.agg (iq b v).toArray] w λx c=>ZT w c/\x= ZU (mI a b) :=
 (xB d hb).mono λ_ _ h=>⟨h.1,h.2.2⟩
end Go.Proofs.YtoleahhfkpkcjaaGreatDoor
namespace Go.PF
open Go.RowKit
section
theorem wrap64 {z:Nat} (h:z<2 ^ 64):IntKind.u64.wrap (z:Int)=z:=by
 rw [IntKind.wrap_u64]; omega
theorem Jc (hm:m<2 ^ 64) (hn:n<2 ^ 64):Op.intBits .and .u64 (m:Int) (n:Int)=pure (.int .u64 ((m &&& n:Nat):Int)):=by
 have h:(BitVec.ofNat 64 m &&& BitVec.ofNat 64 n).toNat=m &&& n:=by
  rw [BitVec.toNat_and,BitVec.toNat_ofNat,BitVec.toNat_ofNat,Nat.mod_eq_of_lt hm,Nat.mod_eq_of_lt hn]
 show (pure (Value.int .u64 (IntKind.u64.wrap (((BitVec.ofNat 64 m &&& BitVec.ofNat 64 n).toNat:Nat):Int))):Sem Value)=_;rw [h,wrap64 (Nat.lt_of_le_of_lt Nat.and_le_left hm)]
theorem Lu (hm:m<2 ^ 63) (hn:n<2 ^ 63):Op.intBits .and .i64 (m:Int) (n:Int)=pure (ZU ((m &&& n:Nat):Int)):=by
 have h:(BitVec.ofNat 64 m &&& BitVec.ofNat 64 n).toNat=m &&& n:=by
  rw [BitVec.toNat_and,BitVec.toNat_ofNat,BitVec.toNat_ofNat,Nat.mod_eq_of_lt ZJ,Nat.mod_eq_of_lt ZJ]
 show (pure (Value.int .i64 (IntKind.i64.wrap (((BitVec.ofNat 64 m &&& BitVec.ofNat 64 n).toNat:Nat):Int))):Sem Value)=_;have:=Nat.lt_of_le_of_lt (Nat.and_le_left (m:=n)) hm;rw [h,eG ZJ]
section
variable {P:Program} {r:Option Nat} {Q:Exit->Act->World->Prop} {N:Nat} {ds:List Deferred} {ops rest:List Oper} {E:Env} {D:DE} {w:World} {G:Option Bool} {Fin:DE->Prop} {md:Mode}
variable {d:Option Tmp} {ty:TypeId} {pos:String} {af:Array Edge} {gu:Option (Nat×Bool)}
variable {x y z:Operand} {cx cy cz:Option Bool} {ρ:Operand->Value}
theorem Oe (a:ρ x= .int .u64 (m:Int)) (b:ρ y= .int .u64 (n:Int)) (hb:m<2 ^ 64/\n<2 ^ 64):(execOp ρ ⟨d,.binOp .and t x y t',ty,pos,af,gu⟩).run P w= .ok (.value (.int .u64 ((m &&& n:Nat):Int))) w:=by simp only [execOp]; rw [a,b,eqGuard_and,binOp_and,Jc hb.1 hb.2]; rfl
theorem tL {m n:Nat} {t t':TypeId} (c:gd ops E gu=some G) (e:aC N d=true) (f:ev E x=some (cx,.int .u64 (m:Int))) (g:aF G->aF cx) (h:ev E y=some (cy,.int .u64 (n:Int))) (i:aF G->aF cy) (hb:aF G->m<2 ^ 64/\n<2 ^ 64)
  (next:TW P r Q N ds ops rest (ins E d G (.int .u64 ((m &&& n:Nat):Int))) w):TW P r Q N ds ops (⟨d,.binOp .and t x y t',ty,pos,af,gu⟩::rest) E w :=
 fZ c e rfl (λa _ b=>Oe (b.eval f (g a)) (b.eval h (i a)) (hb a)) next
theorem QW {m n:Nat} {t t':TypeId} (c:fD ops D gu=some G) (e:aC N d=true) (f:dev D x=some (cx,.ex (.int .u64 (m:Int)))) (g:aF G->aF cx) (h:dev D y=some (cy,.ex (.int .u64 (n:Int)))) (i:aF G->aF cy) (hb:aF G->m<2 ^ 64/\n<2 ^ 64)
  (next:DW P N ds md ops w Fin rest (bE D d G (.ex (.int .u64 ((m &&& n:Nat):Int))))):DW P N ds md ops w Fin (⟨d,.binOp .and t x y t',ty,pos,af,gu⟩::rest) D :=
 jw c e rfl (λa _ _ _ b=>Oe (b.eval f ZQ (g a)) (b.eval h ZQ (i a)) (hb a)) next
theorem Og (a:ρ x= ZU (m:Int)) (b:ρ y= ZU (n:Int)) (hb:m<2 ^ 63/\n<2 ^ 63):(execOp ρ ⟨d,.binOp .and t x y t',ty,pos,af,gu⟩).run P w= .ok (.value (ZU ((m &&& n:Nat):Int))) w:=by simp only [execOp]; rw [a,b,eqGuard_and,binOp_and,Lu hb.1 hb.2]; rfl
theorem QM {m n:Nat} {t t':TypeId} (c:gd ops E gu=some G) (e:aC N d=true) (f:ev E x=some (cx,ZU (m:Int))) (g:aF G->aF cx) (h:ev E y=some (cy,ZU (n:Int))) (i:aF G->aF cy) (hb:aF G->m<2 ^ 63/\n<2 ^ 63)
  (next:TW P r Q N ds ops rest (ins E d G (ZU ((m &&& n:Nat):Int))) w):TW P r Q N ds ops (⟨d,.binOp .and t x y t',ty,pos,af,gu⟩::rest) E w :=
 fZ c e rfl (λa _ b=>Og (b.eval f (g a)) (b.eval h (i a)) (hb a)) next
theorem Wm {m n:Nat} {t t':TypeId} (c:fD ops D gu=some G) (e:aC N d=true) (f:dev D x=some (cx,.ex (ZU (m:Int)))) (g:aF G->aF cx) (h:dev D y=some (cy,.ex (ZU (n:Int)))) (i:aF G->aF cy) (hb:aF G->m<2 ^ 63/\n<2 ^ 63)
  (next:DW P N ds md ops w Fin rest (bE D d G (.ex (ZU ((m &&& n:Nat):Int))))):DW P N ds md ops w Fin (⟨d,.binOp .and t x y t',ty,pos,af,gu⟩::rest) D :=
 jw c e rfl (λa _ _ _ b=>Og (b.eval f ZQ (g a)) (b.eval h ZQ (i a)) (hb a)) next
theorem Oh (a:ρ x= .int .u64 (m:Int)) (b:ρ y= .int .u64 (n:Int)) (hb:m+n<2 ^ 64):(execOp ρ ⟨d,.binOp .add t x y t',ty,pos,af,gu⟩).run P w= .ok (.value (.int .u64 ((m+n:Nat):Int))) w:=by
  simp only [execOp]; rw [a,b,eqGuard_add,binOp_add];show Result.ok (Next.value (Value.int .u64 (IntKind.u64.wrap ((m:Int)+(n:Int))))) w=_;rw [show (m:Int)+(n:Int)=((m+n:Nat):Int) by omega,wrap64 hb]
theorem qd {m n:Nat} {t t':TypeId} (c:gd ops E gu=some G) (e:aC N d=true) (f:ev E x=some (cx,.int .u64 (m:Int))) (g:aF G->aF cx) (h:ev E y=some (cy,.int .u64 (n:Int))) (i:aF G->aF cy) (hb:aF G->m+n<2 ^ 64)
  (next:TW P r Q N ds ops rest (ins E d G (.int .u64 ((m+n:Nat):Int))) w):TW P r Q N ds ops (⟨d,.binOp .add t x y t',ty,pos,af,gu⟩::rest) E w :=
 fZ c e rfl (λa _ b=>Oh (b.eval f (g a)) (b.eval h (i a)) (hb a)) next
theorem Wn {m n:Nat} {t t':TypeId} (c:fD ops D gu=some G) (e:aC N d=true) (f:dev D x=some (cx,.ex (.int .u64 (m:Int)))) (g:aF G->aF cx) (h:dev D y=some (cy,.ex (.int .u64 (n:Int)))) (i:aF G->aF cy) (hb:aF G->m+n<2 ^ 64)
  (next:DW P N ds md ops w Fin rest (bE D d G (.ex (.int .u64 ((m+n:Nat):Int))))):DW P N ds md ops w Fin (⟨d,.binOp .add t x y t',ty,pos,af,gu⟩::rest) D :=
 jw c e rfl (λa _ _ _ b=>Oh (b.eval f ZQ (g a)) (b.eval h ZQ (i a)) (hb a)) next
theorem N6 {k:IntKind} (e:ρ x= .int .u64 (m:Int)) (f:ρ y= .int k (n:Int)) (hb:n<=64):(execOp ρ ⟨d,.binOp .shr t x y t',ty,pos,af,gu⟩).run P w= .ok (.value (.int .u64 ((m >>> n:Nat):Int))) w:=by
  have a: ¬((n:Int)<0):=ZJ;have b:min n IntKind.u64.bits=n:=Nat.min_eq_left hb;have c:(m:Int).fdiv ((2:Int) ^ n)=((m >>> n:Nat):Int):=by
   rw [Nat.shiftRight_eq_div_pow,Int.fdiv_eq_ediv_of_nonneg _ (Int.pow_nonneg ZL)]
   norm_cast
  simp only [execOp]; rw [e,f,eqGuard_shr,binOp_shr];simp only [Op.shift,Int.toNat_natCast,b,c]; rfl
theorem nV {k:IntKind} {m n:Nat} {t t':TypeId} (c:gd ops E gu=some G) (e:aC N d=true) (f:ev E x=some (cx,.int .u64 (m:Int))) (g:aF G->aF cx) (h:ev E y=some (cy,.int k (n:Int))) (i:aF G->aF cy) (hb:aF G->n<=64)
  (next:TW P r Q N ds ops rest (ins E d G (.int .u64 ((m >>> n:Nat):Int))) w):TW P r Q N ds ops (⟨d,.binOp .shr t x y t',ty,pos,af,gu⟩::rest) E w :=
 fZ c e rfl (λa _ b=>N6 (b.eval f (g a)) (b.eval h (i a)) (hb a)) next
theorem Wl {k:IntKind} {m n:Nat} {t t':TypeId} (c:fD ops D gu=some G) (e:aC N d=true) (f:dev D x=some (cx,.ex (.int .u64 (m:Int)))) (g:aF G->aF cx) (h:dev D y=some (cy,.ex (.int k (n:Int)))) (i:aF G->aF cy) (hb:aF G->n<=64)
  (next:DW P N ds md ops w Fin rest (bE D d G (.ex (.int .u64 ((m >>> n:Nat):Int))))):DW P N ds md ops w Fin (⟨d,.binOp .shr t x y t',ty,pos,af,gu⟩::rest) D :=
 jw c e rfl (λa _ _ _ b=>N6 (b.eval f ZQ (g a)) (b.eval h ZQ (i a)) (hb a)) next
theorem N7 {k:IntKind} (f:ρ x= .int .u64 1) (g:ρ y= .int k (n:Int)) (hb:n<64):(execOp ρ ⟨d,.binOp .shl t x y t',ty,pos,af,gu⟩).run P w= .ok (.value (.int .u64 ((2 ^ n:Nat):Int))) w:=by
  have a: ¬((n:Int)<0):=ZJ;have b:min n IntKind.u64.bits=n:=Nat.min_eq_left (by show n<=64; omega);have c:(1:Int)*(2:Int) ^ n=((2 ^ n:Nat):Int):=by rw [Int.one_mul];  rfl
  have e:(2 ^ n:Nat)<2 ^ 64:=Nat.pow_lt_pow_right ZL hb;simp only [execOp]; rw [f,g,eqGuard_shl,binOp_shl];simp only [Op.shift,Int.toNat_natCast,b,c,wrap64 e]; rfl
theorem We {k:IntKind} {n:Nat} {t t':TypeId} (c:gd ops E gu=some G) (e:aC N d=true) (f:ev E x=some (cx,.int .u64 1)) (g:aF G->aF cx) (h:ev E y=some (cy,.int k (n:Int))) (i:aF G->aF cy) (hb:aF G->n<64)
  (next:TW P r Q N ds ops rest (ins E d G (.int .u64 ((2 ^ n:Nat):Int))) w):TW P r Q N ds ops (⟨d,.binOp .shl t x y t',ty,pos,af,gu⟩::rest) E w :=
 fZ c e rfl (λa _ b=>N7 (b.eval f (g a)) (b.eval h (i a)) (hb a)) next
theorem QS {k:IntKind} {n:Nat} {t t':TypeId} (c:fD ops D gu=some G) (e:aC N d=true) (f:dev D x=some (cx,.ex (.int .u64 1))) (g:aF G->aF cx) (h:dev D y=some (cy,.ex (.int k (n:Int)))) (i:aF G->aF cy) (hb:aF G->n<64)
  (next:DW P N ds md ops w Fin rest (bE D d G (.ex (.int .u64 ((2 ^ n:Nat):Int))))):DW P N ds md ops w Fin (⟨d,.binOp .shl t x y t',ty,pos,af,gu⟩::rest) D :=
 jw c e rfl (λa _ _ _ b=>N7 (b.eval f ZQ (g a)) (b.eval h ZQ (i a)) (hb a)) next
end
end
end Go.PF
namespace Go.Proofs.YtoleahhfkpkcjaaGreatDoor
open Go.Proofs.Tryz
open Go.PF Go.RowKit Go.Ord
attribute [local irreducible] TW CW KW DW
theorem PN {l:List Rc} {p:Nat} (hs:mK l) (h:p<=l.length) (h1: ∀i y,i<p->l[i]?=some y->wT y x) (a: ∀y,l[p]?=some y-> ¬wT y x):lT l x=p:=(j6 l x).uniq ⟨h,h1,a⟩
theorem Ja {l:List Rc} (hl:SL rcT F w v l) (hx:RcOK G w u x) (hs:mK l) (a3:l.length<=1000000) :
  Gives prog 61 #[v,.agg (iq x u).toArray,.func (.func 62) #[] #[]] w λy M=>ZT w M/\y= .tuple #[ZU (lT l x:Int),.bool (dec (x∈l))]:=by
 obtain ⟨A,a0,rfl,_⟩:=hl.form;refine gw func61 ntmps61 ?_;refine nw rfl λg Z f=> ?_;refine dA [0,2,4,8] (λy:Nat×Nat=> [(9,none,ZU (y.1:Int)),(10,none,ZU (y.2:Int))])
  (λy W=>ZT Z W/\y.1<=y.2/\y.2<=l.length/\(∀i z,i<y.1->l[i]?=some z->wT z x)/\ ∀i z,y.2<=i->l[i]?=some z-> ¬wT z x) (λy=>y.2-y.1) (0,l.length) ⟨ZA,ZB,ZC,λi z h=>ZJ,λi z h e=>by have:=(ZE e).1; dsimp only at h; omega⟩ ?_
 rintro ⟨s,c⟩ W ⟨L,h1,N,O,R⟩;dsimp only at h1 N O R;refine rn ?_;refine cd rfl (λa1=> ?_) λa2=> ?_
 .have e1:IntKind.u64.wrap ((s:Int)+(c:Int))=((s+c:Nat):Int):=wrap64 (z:=s+c) ZJ;rw [e1];refine nV (n:=1) rfl rfl rfl ct rfl ct (λ_=>ZL) ?_;rw [Nat.shiftRight_eq_div_pow];refine rn ?_;obtain ⟨m,hm⟩: ∃m,m=(s+c) / 2 ^ 1:=⟨_,rfl⟩;have E:s<=m/\m<c:=by simp at hm; omega
  rw [<-hm,show IntKind.i64.wrap (m:Int)=(m:Int) from eG ZJ];obtain ⟨z,o,_⟩:=eP (l:=l) (k:=m) ZJ;obtain ⟨ad,rfl⟩:=hl.addr ZJ;have t:=f.below.step L;obtain ⟨zv,S,B⟩:=SR.get (hl.below t) o;refine dx ?_;refine dc ZK rfl (λ_ M H=>rf (B.below H) (hx.below (t.step H))) ?_;refine dz λw2 D=> ?_;have C: ∀i y,i<m->l[i]?=some y->wT y z:=λi y b d=>by
   have I:=(ZE d);have J:=(ZE o);have:=List.pairwise_iff_getElem.1 hs i m I.1 J.1 b;rw [I.2,J.2] at this;exact this
  have j: ∀i y,m<i->l[i]?=some y->wT z y:=λi y b d=>by
   have I:=(ZE d);have J:=(ZE o);have:=List.pairwise_iff_getElem.1 hs m i J.1 I.1 b;rw [I.2,J.2] at this;exact this
  refine cd rfl (λp=> ?_) λr=> ?_
  .refine cK (m+1,c) ⟨L.step D,E.2,N,λi y b d=> ?_,R⟩;rcases ZI i m with q|q
   .exact jJ (C i y q d) p
   .obtain rfl:i=m:=by dsimp only at b; omega
    rw [o] at d; cases d; exact p
  .refine cK (s,m) ⟨L.step D,E.1,ZJ,O,λi y b d=> ?_⟩;rcases ZI m i with q|q
   .exact λh=>r (jJ (j i y q d) h)
   .obtain rfl:i=m:=by dsimp only at b; omega
    rw [o] at d; cases d; exact r
 .have U:c=s:=ZJ;subst U;have hp:lT l x=c:=PN hs N O λy d=>R c y ZC d;rw [hp];have t:=f.below.step L;have a:=(j6 l x).found hs;rw [hp] at a;by_cases Y:c<l.length
  .obtain ⟨z,o,_⟩:=eP (l:=l) (k:=c) Y;obtain ⟨ad,rfl⟩:=hl.addr ZJ;obtain ⟨zv,S,B⟩:=SR.get (hl.below t) o;refine dx ?_;refine dc ZK rfl (λ_ M H=>rf (B.below H) (hx.below (t.step H))) ?_;refine dz λw2 D=> ?_;refine rD rfl ⟨t.step D,?_⟩;rw [decide_eq_true (ZJ:(c:Int)<(l.length:Int)),Bool.true_and]
   congr 4
   rw [dJ a,o];have:(mI z x=0)↔some z=some x:=by rw [cmpR_eq]; simp
   rw [<-dJ this];unfold dec;simp
  .have K: ¬(c:Int)<(l.length:Int):=ZJ;have hG: ¬aF (some (decide ((c:Int)<(l.length:Int)))):=by simp [aF]; omega
   refine dx ?_;refine dz λw2 D=> ?_;refine rD rfl ⟨t.step D,?_⟩;rw [aH (λh=>by have:=a.1 h; rw [List.getElem?_eq_none ZJ] at this; cases this),decide_eq_false K];rfl
end Go.Proofs.YtoleahhfkpkcjaaGreatDoor
namespace Go.PF
open Go.RowKit
section
section
variable {P:Program} {r:Option Nat} {Q:Exit->Act->World->Prop} {N:Nat} {ds:List Deferred} {ops rest:List Oper} {E:Env} {w:World}
variable {d:Option Tmp} {ty:TypeId} {pos:String} {af:Array Edge} {gu:Option (Nat×Bool)} {x y:Operand}
theorem ES (xs:List Value) (o:Nat):splice xs o []=xs:=by unfold splice; simp
theorem GO {t2 e':TypeId} {o p dl dc ml mc:Nat} {A B:Option Addr} (W:gu=none) (Y:aC N d=true) (Z:P.underlying t=some (.slice e)) (hs:(P.info? e).map (·.size)=some sz)
  (hx:ev E x=some (none,.slice A dl dc)) (hy:ev E y=some (none,.slice B ml mc)) (b:OwnS w e' sz (.slice (some ⟨g,0,none⟩) n c) n xs) (hm:m=Nat.min ml dl) (H:0<m->A=some ⟨g,o,none⟩) (I:0<m->B=some ⟨g,p,none⟩) (ho:o+m*sz<=n*sz) (hp:p+m*sz<=n*sz) (h1: ∀u∈xs,u.oneCell'=true)
  (next: ∀l,OwnS l e' sz (.slice (some ⟨g,0,none⟩) n c) n (splice xs o ((xs.drop p).take (m*sz)))->w.grownBy l (some g)->l.heap.size=w.heap.size->TW P r Q N ds ops rest (ins E d none (ZU (m:Int))) l) :
  TW P r Q N ds ops (⟨d,.call ⟨.builtin .copy,#[x,y],#[t,t2]⟩,ty,pos,af,gu⟩::rest) E w:=by
 have a0:=b.1;rcases Nat.eq_zero_or_pos m with R|k
 .have f:(Builtin.copy_ #[t,t2] ty #[.slice A dl dc,.slice B ml mc]).run P w= .ok (goInt 0) w:=by
   cases s:P.info? e with
   | none=>simp [s] at hs
   | some i =>
    have G:Nat.min ml dl=0:=ZJ;have hl:=λz=>by simpa using run_loadCells_list (P:=P) w z [] ZM
    cases A<;>cases B<;>simp [Builtin.copy_,run_underlying Z,Builtin.lenOf,Builtin.firstCells,sizeOf,typeInfo,s,G,storeCells,hl]
  refine ek (w':=w) W Y rfl (λa D=> ?_) (next w ?_ ⟨rfl,rfl,rfl,ZC,λ_ _ _=>rfl⟩ rfl)
  .simp [execOp,resolve,Go.invoke,Go.builtin,D.eval hx trivial,D.eval hy trivial,f,goInt,R]
  .rw [R];simp only [Nat.zero_mul,List.take_zero];rw [ES];exact b
 .have H:=H k;have I:=I k;subst H;subst I;obtain ⟨C,h⟩: ∃C,C=(xs.drop p).take (m*sz):=⟨_,rfl⟩;have F:C.length=m*sz:=by rw [h]; simp; omega
  obtain ⟨A',a1,hv,_,_,hc⟩:=b.form;have q:(loadCells ⟨g,p,none⟩ (m*sz)).run P w= .ok C.toArray w:=by
   rw [<-F];refine run_loadCells_list (P:=P) w _ C λj u J=> ?_;have K:j<m*sz:=by rw [<-F]; exact (ZE J).1
   have L:xs[p+j]?=some u:=by
    rw [h,List.getElem?_take_of_lt K,List.getElem?_drop] at J;exact J
   obtain ⟨g',_,S,h4,_⟩:=hc _ _ L;simp [Value.ownBlock] at S;subst S;have e:(⟨g,p,none⟩:Addr).add j=⟨g,p+j,none⟩:=by unfold Addr.add; split<;>simp_all
   rw [e];exact h4
  obtain ⟨l,hr,hO,M,O⟩:=fC (P:=P) (e:=e') (sz:=sz) (n:=n) (g:=g) rfl C w xs o 0 b ZJ (λu U=>h1 u (by rw [h] at U; exact List.mem_of_mem_drop (List.mem_of_mem_take U)));have f:(Builtin.copy_ #[t,t2] ty #[.slice (some ⟨g,o,none⟩) dl dc,.slice (some ⟨g,p,none⟩) ml mc]).run P w= .ok (goInt m) l:=by
   cases s:P.info? e with
   | none=>simp [s] at hs
   | some i =>
    simp [s] at hs;simp [Builtin.copy_,run_underlying Z,Builtin.lenOf,Builtin.firstCells,sizeOf,typeInfo,s,hs,<-hm,q,hr]
  refine ek (w':=l) W Y rfl (λa D=> ?_) (next l (by rw [<-h]; simpa using hO) M O);simp [execOp,resolve,Go.invoke,Go.builtin,D.eval hx trivial,D.eval hy trivial,f,goInt]
end
end
section
section
variable {P:Program} {w:World}
theorem uh (t l ty e:TypeId) (i:TypeInfo) (z:Value) (o:P.underlying t=some (.slice e)) (j:P.underlying l=some (.int .i64)) (p:P.info? e=some i) (q:i.zero=some z) (hs:0<i.size)
  (n:Nat) (r:0<n) (s:(n:Int)<=9223372036854775807) (u:n*i.bytes<=281474976710656) :
  (Builtin.append_ #[t,l] ty #[.slice none 0 0,ZU (n:Int)]).run P w =
   .ok (.slice (some ⟨w.heap.size,0,none⟩) n (grownCap w n 0 e)) (w.drew.alloc (.cells (Builtin.zeroCells z.cells n++Builtin.zeroCells z.cells (grownCap w n 0 e-n)) e)):=by
 have k:n≠0:=ZJ;have a: ¬(9223372036854775807<(n:Int)):=ZJ;have m:IntKind.i64.wrap (n:Int)=n:=eG ZJ;have b: ¬((n:Int)<0):=ZJ;have c: ¬(281474976710656<(n:Int)*(i.bytes:Int)):=by
  have:((n*i.bytes:Nat):Int)<=281474976710656:=ZJ;omega
 have g: ¬((n:Int)<=0):=ZJ;have d: ¬i.size=0:=ZJ;have h:=Nat.mul_ne_zero k d;have f: ¬(281474976710656<Builtin.nextslicecap n 0*i.bytes):=by rw [nextslicecap_zero r]; omega
 simp [Builtin.append_,run_underlying o,run_underlying j,sizeOf,typeInfo,zeroValue,p,q,h,m,b,c,asInt,asIntOf,k,a,f,Question.forced,run_firstCells_none,newRow,grownCap]
end
section
variable {P:Program} {r:Option Nat} {Q:Exit->Act->World->Prop} {N:Nat} {ds:List Deferred} {ops rest:List Oper} {E:Env} {w:World}
variable {d:Option Tmp} {ty:TypeId} {pos:String} {af:Array Edge} {gu:Option (Nat×Bool)} {s x:Operand}
theorem Eo {ti:TypeId} {bytes:Nat} (C:gu=none) (D:aC N d=true) (p:bZ P t e sz bytes=true) (q:P.underlying ti=some (.int .i64)) (hs:ev E s=some (none,.slice none 0 0)) (F:ev E x=some (none,ZU (n:Int))) (G:0<n) (hn:n<=1000000000) (hb:bytes<=1000) (H:0<sz)
  (next: ∀g b o,n<=b->OwnS o e sz (.slice (some ⟨g,0,none⟩) 0 b) 0 []->w.heap.size=g->ZT w o->TW P r Q N ds ops rest (ins E d none (.slice (some ⟨g,0,none⟩) n b)) o) :
  TW P r Q N ds ops (⟨d,.call ⟨.builtin .append,#[s,x],#[t,ti]⟩,ty,pos,af,gu⟩::rest) E w:=by
 obtain ⟨i,z,y,A,h,j,k,l,_⟩:=lY p;have c:n*i.bytes<=281474976710656:=by
  rw [k];exact Nat.le_trans (Nat.mul_le_mul hn hb) ZL
 have B:=uh (w:=w) t ti ty e i z y q A h ZJ n G ZJ c;have f:=grownCap_ge w n 0 e;have m:=grownCap_le_maxLen w n 0 e (by simp only [maxLen]; omega);refine ek (v:= .slice (some ⟨w.heap.size,0,none⟩) n (grownCap w n 0 e)) (w':=w.drew.alloc (.cells (Builtin.zeroCells z.cells n++Builtin.zeroCells z.cells (grownCap w n 0 e-n)) e)) C D rfl (λa u=> ?_) ?_
 .simp only [execOp,resolve,Go.invoke,Go.builtin,Sem.run_bind,Sem.run_pure,Result.andThen_ok,List.map_toArray,List.map_cons,List.map_nil,u.eval hs trivial,u.eval F trivial,B]
 .refine next _ _ _ f ⟨ZM,.inr ⟨w.heap.size,grownCap w n 0 e,_,rfl,ZB,heap_alloc_new w.drew _,ZB,m,?_,ZM⟩⟩ rfl ?_
  .simp only [Builtin.zeroCells,Array.size_append,Array.size_map,Array.size_range,l];rw [<-Nat.add_mul,Nat.add_sub_cancel' f]
  .exact ((ZA).trans ⟨rfl,rfl,rfl,ZC,λ_ _=>rfl⟩:ZT w w.drew).alloc ZC _
end
end
section
section
variable {P:Program} {r:Option Nat} {Q:Exit->Act->World->Prop} {N:Nat} {ds:List Deferred} {ops rest:List Oper} {E:Env} {D:DE} {w:World} {G:Option Bool}
variable {d:Option Tmp} {ty:TypeId} {pos:String} {af:Array Edge} {x y s:Operand}
theorem qb {t2 e':TypeId} {o dl dc ml mc:Nat} {b:Addr} {news:List Value} (G:P.underlying t=some (.slice e)) (hs:(P.info? e).map (·.size)=some sz)
  (h:(aC N d,ev E x,ev E y)=(true,some (none,.slice (some (Addr.add ⟨g,0,none⟩ o)) dl dc),some (none,.slice (some b) ml mc))) (k:OwnS w e' sz (.slice (some ⟨g,0,none⟩) n c) n xs) (hm:m=Nat.min ml dl) (hl:news.length=m*sz)
  (q: ∀j u,news[j]?=some u->w.cell? (b.add j)=some u) (H:o+m*sz<=n*sz) (h1: ∀u∈news,u.oneCell'=true)
  (next: ∀f,OwnS f e' sz (.slice (some ⟨g,0,none⟩) n c) n (splice xs o news)->But g w f->f.heap.size=w.heap.size->TW P r Q N ds ops rest (ins E d none (ZU (m:Int))) f) :
  TW P r Q N ds ops (⟨d,.call ⟨.builtin .copy,#[x,y],#[t,t2]⟩,ty,pos,af,none⟩::rest) E w:=by
 rw [dQ] at h;simp only [Prod.mk.injEq] at h;have C:=k.1;have l:(loadCells b (m*sz)).run P w= .ok news.toArray w:=by
  rw [<-hl];exact run_loadCells_list w _ news q
 obtain ⟨f,D,F,s,z⟩:=fC (P:=P) rfl news w xs o 0 k ZJ h1;have p:(Builtin.copy_ #[t,t2] ty #[.slice (some ⟨g,o,none⟩) dl dc,.slice (some b) ml mc]).run P w= .ok (goInt m) f:=by
  cases A:P.info? e with
  | none=>simp [A] at hs
  | some i =>
   simp [A] at hs;simp [Builtin.copy_,run_underlying G,Builtin.lenOf,Builtin.firstCells,sizeOf,typeInfo,A,hs,<-hm,l,D]
 refine ek rfl h.1 rfl (λa B=> ?_) (next f (by simpa using F) s z);simp [execOp,resolve,Go.invoke,Go.builtin,B.eval h.2.1 trivial,B.eval h.2.2 trivial,p,goInt]
theorem OwnS.at0 {j:Nat} (h:OwnS w e sz (.slice (some ⟨g,0,none⟩) n c) n xs) (hj:xs[j]?=some u):w.cell? ⟨g,j,none⟩=some u:=by
 obtain ⟨k,d,l,_,_,f⟩:=h.form;obtain ⟨m,o,a,b,i⟩:=f j u hj;simp [Value.ownBlock] at a;subst a;exact b
theorem OwnS.room (h:OwnS w e sz (.slice (some ⟨g,0,none⟩) n c) n xs) (s:n<=m) (hm:m<=c): ∃j,OwnS w e sz (.slice (some ⟨g,0,none⟩) m c) m (xs++j)/\j.length=(m-n)*sz:=by
 obtain ⟨t,d⟩:=h;rcases d with ⟨d,_⟩|⟨u,o,a,p,_,q,r,f,b,i⟩
 .cases d
 .cases p;have k:a.toList.take (m*sz)=xs++(a.toList.take (m*sz)).drop (n*sz):=by
   conv=>lhs; rw [<-List.take_append_drop (n*sz) (a.toList.take (m*sz))]
   rw [List.take_take,Nat.min_eq_left (Nat.mul_le_mul_right _ s),i]
  have l:(a.toList.take (m*sz)).length=m*sz:=by
   rw [List.length_take,Array.length_toList,b];exact Nat.min_eq_left (Nat.mul_le_mul_right _ hm)
  refine ⟨(a.toList.take (m*sz)).drop (n*sz),⟨by rw [<-k]; exact l,.inr ⟨g,c,a,rfl,ZB,q,hm,f,b,k⟩⟩,?_⟩;rw [List.length_drop,l,Nat.sub_mul]
theorem Ep {ti:TypeId} {bytes k:Nat} {A:Option Addr} {olds:List Value} (L:bZ P t e sz bytes=true) (M:P.underlying ti=some (.int .i64)) (h:(aC N d,ev E s,ev E x)=(true,some (none,.slice A n c),some (none,ZU (k:Int))))
  (hl:olds.length=n*sz) (S: ∀j u,olds[j]?=some u-> ∃l,A=some l/\w.cell? (l.add j)=some u) (h0:0<k) (f:c<n+k) (hn:n+k<=1000000) (hb:bytes<=1000)
  (next: ∀g C K R,OwnS K e sz (.slice (some ⟨g,0,none⟩) (n+k) C) (n+k) (olds++R)->R.length=k*sz->g=w.heap.size->ZT w K->TW P r Q N ds ops rest (ins E d none (.slice (some ⟨g,0,none⟩) (n+k) C)) K) :
  TW P r Q N ds ops (⟨d,.call ⟨.builtin .append,#[s,x],#[t,ti]⟩,ty,pos,af,none⟩::rest) E w:=by
 simp only [Prod.mk.injEq] at h;obtain ⟨i,z,U,W,F,p,G,H,Y⟩:=lY L;have y:(Builtin.firstCells i.size n (.slice A n c)).run P w.drew= .ok olds.toArray w.drew:=by
  rw [p];have I: ∀l:Addr,A=some l->(loadCells l (n*sz)).run P w.drew= .ok olds.toArray w.drew:=λl Z=>by
   rw [<-hl];refine run_loadCells_list w.drew _ olds λj u hj=> ?_;obtain ⟨a0,D,h2⟩:=S j u hj;rw [Z] at D; cases D;exact h2
  cases A with
  | some l=>simpa [Builtin.firstCells] using I l rfl
  | none =>
   have:olds= []:=by
    cases olds with
    | nil=>rfl
    | cons u us=>obtain ⟨l,D,_⟩:=S 0 u rfl; cases D
   subst this;simp [Builtin.firstCells]
 have a1:=nextslicecap_le f;have o: ∀q,q<=2000000->q*i.bytes<=281474976710656:=λq hq=>by
  rw [G];exact Nat.le_trans (Nat.mul_le_mul hq hb) ZL
 have hr:=Go.Lib.run_append_grow_zeros w t ti ty e i z .i64 .i64 U M W F A n c olds y k h0 ZJ f ZJ (o k ZJ) (o _ ZJ);have B:=grownCap_ge w (n+k) c e;have J:=grownCap_le_maxLen w (n+k) c e (by simp only [maxLen]; omega);have b: ∀m,(Builtin.zeroCells z.cells m).size=m*sz:=λm=>by simp only [Builtin.zeroCells,Array.size_map,Array.size_range,H]
 refine ek (v:= .slice (some ⟨w.heap.size,0,none⟩) (n+k) (grownCap w (n+k) c e)) (w':=w.drew.alloc (.cells (olds.toArray++Builtin.zeroCells z.cells k++Builtin.zeroCells z.cells (grownCap w (n+k) c e-(n+k))) e)) rfl h.1 rfl (λa O=> ?_) ?_
 .simp only [execOp,resolve,Go.invoke,Go.builtin,Sem.run_bind,Sem.run_pure,Result.andThen_ok,List.map_toArray,List.map_cons,List.map_nil,O.eval h.2.1 trivial,O.eval h.2.2 trivial,hr]
 .refine next _ _ _ (Builtin.zeroCells z.cells k).toList ⟨?_,.inr ⟨w.heap.size,grownCap w (n+k) c e,_,rfl,ZB,heap_alloc_new w.drew _,B,J,?_,?_⟩⟩ ?_ rfl ?_
  .rw [List.length_append,hl,Array.length_toList,b,Nat.add_mul]
  .simp only [Array.size_append,b,List.size_toArray,hl];rw [<-Nat.add_mul,<-Nat.add_mul,Nat.add_sub_cancel' B]
  .rw [Array.toList_append,List.take_append_of_le_length,List.take_of_length_le]
   .simp
   .simp [hl,b,Nat.add_mul]
   .simp [hl,b,Nat.add_mul]
  .rw [Array.length_toList,b]
  .exact ((ZA).trans ⟨rfl,rfl,rfl,ZC,λ_ _=>rfl⟩:ZT w w.drew).alloc ZC _
theorem Em {f:FuncId} {fn:Func} {tS tR:TypeId} {a b:Addr} {la ca lb cb:Nat} {xs:List Operand} {ts:Array TypeId} (y:P.funcs[f]?=some fn) (c:(fn.name== "runtime.NumGoroutine") = false)
  (hb:fn.body.isNone=true) (l:Extern.findNext fn=none) (he:Extern.find fn=some (Extern.SlicesOverlaps.overlaps #[tS,tS] #[tR])) (z:P.underlying tS=some (.slice e)) (hs:(P.info? e).map (·.size)=some sz)
  (h:(aC N d,evs E xs)=(true,some [.slice (some a) la ca,.slice (some b) lb cb])) {tA:TypeId} {ca':List Value} (g:Blk w a.block tA ca') (m: ∃i j o,w.heap[b.block]?=some (.cells i j o)/\i.size≠0) (n:a.block≠b.block)
  (next:TW P r Q N ds ops rest (ins E d none (.bool false)) w) :
  TW P r Q N ds ops (⟨d,.call ⟨.value (.func f),xs.toArray,ts⟩,ty,pos,af,none⟩::rest) E w:=by
 simp only [Prod.mk.injEq] at h;obtain ⟨i,j,o,q,s⟩:=m;have k:(callFunc f #[.slice (some a) la ca,.slice (some b) lb cb]).run P w= .ok (.value (.bool false)) w:=by
  rw [run_callFunc_extern y c hb l he,Go.Lib.run_overlaps_apart w tS tR e z sz (λw=>run_sizeOf hs w) a b la ca lb cb n tA j ca'.length i.size (by unfold Blk at g; simp [World.shape?,g]) (by simp [World.shape?,q]) s
   (by unfold Blk at g; simp [World.frozen?,g]) (by unfold Blk at g; simp [World.frozen?,g])]
  rfl
 refine ek rfl h.1 rfl (λp t=> ?_) next
 have u:=fJ h.2 (G:=none) p t trivial;have x:p.eval (.func f)= .func (.func f) #[] #[]:=rfl;simp [execOp,resolve,x,u,Deferred.ofValue,Go.invoke,k]
theorem dl (t:Nat) {id:Nat} {q: ∀w',ZT w w'->Prop} [Mx P] (next: ∀w' b,q w' b) (hlex:fU ops=true:=by kernel_rfl) (hcut:iL ops 0 t=true:=by kernel_rfl) (htl:Nat.ble t ops.length=true:=by rfl)
  (imp:(∀w' b,Wp (q w' b))->DW P N ds .weak ops w (λD=> ∀a w',ZT w w'->FitD N ds D a w'->RK P r Q ops t a w') (bN ops 0 t) (lift E):=by
   intro hq;refine rd ?_;exact Ex rfl λw' hb=>gy (eu ZK ZK rfl (hq w' hb).q)):CW P r Q N ds (.region id ops.toArray true) E w :=
 dP Mx.q λW hb=>iP .weak t hlex hcut (by cases t<;>rfl) htl hb (imp λw' b=>⟨next w' b⟩)
end
end
end Go.PF
namespace Go.Proofs.YtoleahhfkpkcjaaGreatDoor
open Go.Proofs.Tryz
open Go.PF Go.RowKit Go.Ord
attribute [local irreducible] TW CW KW DW
theorem wB {A zs:List Value} {o:Nat} (h:A.length=o):splice (A++zs) o cs=A++cs++zs.drop cs.length:=by
 subst h;unfold splice;simp
theorem JP (r:OwnS w 57 6 v n xs) (hn:n<=1000) (hi:i<=n) (h1: ∀u∈xs,u.oneCell'=true) (L:Blk w b 57 cs) (K:cs.length=6) (C: ∀u∈cs,u.oneCell'=true) (hb:v.ownBlock≠some b) :
  Gives prog 65 #[v,ZU (i:Int),.slice (some ⟨b,0,none⟩) 1 1] w λu M=>w.grownBy M v.ownBlock/\OwnS M 57 6 u (n+1) (xs.take (i*6)++cs++xs.drop (i*6))/\ ∀g,u.ownBlock=some g->v.ownBlock=some g\/w.heap.size<=g:=by
 have a6:xs.length=n*6:=r.1;obtain ⟨A,t,rfl,a7,_,y⟩:=r.form;refine gw func65 ntmps65 ?_;refine cF rfl ?_;have a5: ∀g,(Value.slice A n t).ownBlock=some g->A=some ⟨g,0,none⟩:=λg s=>by
  rcases r.2 with ⟨e,_⟩|⟨N,c',E,e,_⟩
  .cases e; cases s
  .cases e; cases s; rfl
 refine cd rfl (λhe=> ?_) λa8=> ?_
 .have O:i=n:=ZJ;subst O;refine aT cs rfl rfl Dk rfl r rfl (by rw [K]) (λj u d=>⟨⟨b,0,none⟩,rfl,L.fld d⟩) C ZJ ZJ ?_;intro v' M R l S;refine rn ?_;refine aO rfl ⟨l,?_,λg s=> ?_⟩
  .rw [List.take_of_length_le ZJ,List.drop_eq_nil_of_le ZJ,List.append_nil];exact R
  .rcases S with h|h
   .exact .inl (by rw [<-h]; exact s)
   .rw [h] at s; cases s; exact .inr ZC
 have a9:i<n:=ZJ;have U: ∃g,A=some ⟨g,0,none⟩:=by
  obtain ⟨g,s,_⟩:=y 0 xs[0] (ZD ZJ);exact ⟨g,s⟩
 obtain ⟨g,rfl⟩:=U;have F:b≠g:=λe=>hb (by rw [e]; rfl);refine cd rfl (λaa=> ?_) λW=> ?_
 .rw [show (n:Int)+((1:Nat):Int)-(i:Int)=((n+1-i:Nat):Int) by omega];refine Ep (n:=i) (olds:=xs.take (i*6)) Dk Und.q rfl ZO (λj u d=>⟨⟨g,0,none⟩,rfl,by
   rw [dQ];refine r.at0 (j:=j) ?_;rw [List.getElem?_take_of_lt (by have:=(ZE d).1; simp at this; omega)] at d;exact d⟩) ZJ ZJ ZJ ZJ ?_
  intro g2 G w2 H z hz ab a;rw [show i+(n+1-i)=n+1 by omega] at z ⊢;have Y:n+1<=G:=by
   obtain ⟨_,_,e,h,_⟩:=z.form;cases e; exact h
  refine rn ?_;refine qb (m:=1) (news:=cs) Und.q Sz.q rfl z ?_ (by rw [K]) (λj u d=>(L.next a).fld d) ZJ C ?_
  .simp only [Nat.min_def]; split<;>omega
  intro w3 B o Z;refine rn ?_;refine dl 8 (λw4 p=> ?_);have a0:g<w.heap.size:=r.lt rfl;have x:OwnS w4 57 6 (.slice (some ⟨g,0,none⟩) n t) n xs:=OwnS.below (OwnS.kept (r.below a) λk hk=>by
   cases hk;exact o.block g (by have:=a.size; omega) (λe=>by cases e; omega)) p
  refine qb (m:=n-i) (news:=xs.drop (i*6)) Und.q Sz.q rfl (B.below p) (by simp only [Nat.min_def]; split<;>omega) ZO (λj u d=>by
   rw [List.getElem?_drop] at d;rw [Addr.add_add,dQ];exact x.at0 d) ZJ (λu hu=>h1 u (List.mem_of_mem_drop hu)) ?_
  intro w5 I a1 ac;refine rn ?_;have a2:ZT w w5:=But.below ((But.below a o ZJ).step p) a1 ZJ;have e0:(xs.take (i*6)).length=i*6:=by rw [List.length_take]; omega
  have e1:splice (List.take (i*6) xs++H) (((i:Nat):Int).toNat*6) cs=xs.take (i*6)++cs++H.drop cs.length:=wB e0;have e2:splice (xs.take (i*6)++cs++H.drop cs.length) (((i:Int)+((1:Nat):Int)).toNat*6) (xs.drop (i*6))=xs.take (i*6)++cs++xs.drop (i*6)++(H.drop cs.length).drop (xs.drop (i*6)).length:=wB (by rw [List.length_append,e0,K]; omega);rw [e1,e2,List.drop_eq_nil_of_le (show (H.drop cs.length).length<=(xs.drop (i*6)).length by simp; omega),List.append_nil] at I;exact aO rfl ⟨GB.of_below a2,I,λN l=> .inr (by simp [Value.ownBlock] at l; omega)⟩
 have J:n+1<=t:=ZJ;obtain ⟨D,hY,ad⟩:=r.room (Nat.le_succ n) J;have a0:g<w.heap.size:=r.lt rfl;refine Em (tS:=31) (tR:=4) func121 ZK ZK ZK ZK iu31.q is57.q rfl L ?_ ?_ ?_
 .rw [add_block];rcases r.2 with ⟨e,_⟩|⟨N,c',E,e,_,s,_,_,ae,_⟩
  .cases e
  .cases e;exact ⟨E,_,_,s,ZJ⟩
 .rw [add_block]; exact F
 refine rn ?_;refine cT rfl ?_;refine dl 8 (λw2 a=> ?_);have hm: ∀u∈xs,u.oneCell'=true:=h1;have a3:=hY.below a;rw [show ((n:Int)+((1:Nat):Int)).toNat=n+1 by omega];refine qb (n:=n+1) (c:=t) (xs:=xs++D) (m:=n-i) (news:=xs.drop (i*6)) Und.q Sz.q rfl a3 (by simp only [Nat.min_def]; split<;>omega) ZO (λj u d=>by
  rw [List.getElem?_drop] at d;rw [Addr.add_add,dQ];exact (r.below a).at0 d) ZJ (λu hu=>h1 u (List.mem_of_mem_drop hu)) ?_
 intro w3 B o Z;refine rn ?_;have a4:Blk w3 b _ _:=o.blk (L.next a) F;refine qb (m:=1) (news:=cs) Und.q Sz.q rfl B (by simp only [Nat.min_def]; split<;>omega) (by rw [K]) (λj u d=>a4.fld d) ZJ C ?_;intro w4 x p af;refine rn ?_;have e0:(xs.take (i*6)).length=i*6:=by rw [List.length_take]; omega
 have e1:splice (xs++D) (((i:Int)+((1:Nat):Int)).toNat*6) (xs.drop (i*6))=(xs++D).take (i*6+6)++xs.drop (i*6):=by
  have h6:((i:Int)+((1:Nat):Int)).toNat*6=i*6+6:=ZJ;unfold splice;rw [h6,List.drop_eq_nil_of_le (show (xs++D).length<=i*6+6+(xs.drop (i*6)).length by simp; omega),List.append_nil]
 have e2:splice ((xs++D).take (i*6+6)++xs.drop (i*6)) (((i:Nat):Int).toNat*6) cs=xs.take (i*6)++cs++xs.drop (i*6):=by
  show splice _ (i*6) cs=_;unfold splice;have l6:((xs++D).take (i*6+6)).length=i*6+6:=by rw [List.length_take,List.length_append]; omega
  rw [List.take_append_of_le_length ZJ,List.take_take,Nat.min_eq_left ZJ,List.take_append_of_le_length ZJ,K,List.drop_append_of_le_length ZJ,List.drop_eq_nil_of_le (Nat.le_of_eq l6),List.nil_append]
 rw [e1,e2] at x;refine aO rfl ⟨((GB.of_below a).trans o).trans p,x,λN l=> .inl l⟩
end Go.Proofs.YtoleahhfkpkcjaaGreatDoor
namespace Go.PF
open Go.RowKit
section
variable {R R' F:Nat->Prop} {w w' w'':World}
structure Chg (R:Nat->Prop) (w w':World):Prop where
 os:w'.os=w.os
 tape:w'.tape=w.tape
 output:w'.output=w.output
 size:w.heap.size<=w'.heap.size
 block: ∀k,k<w.heap.size-> ¬R k->w'.heap[k]?=w.heap[k]?
theorem Chg.of_below (h:ZT w w'):Chg R w w':=⟨h.os,h.tape,h.output,h.size,λk a _=>h.block k a⟩
theorem Chg.refl (w:World):Chg R w w:= .of_below ZA
theorem Chg.of_but (h:w.grownBy w' o) (c: ∀g,o=some g->R g):Chg R w w':=⟨h.os,h.tape,h.output,h.size,λk a b=>h.block k a λe=>b (c k e.symm)⟩
theorem Chg.below {B:Nat} (h:Chg R w w') (b: ∀k,R k->B<=k) (d:B<=w.heap.size):Below B w w':=⟨h.os,h.tape,h.output,h.size,λk c=>h.block k ZJ λa=>by have:=b k a; omega⟩
theorem Chg.trans (h:Chg R w w') (a:Chg R' w' w'') (f: ∀k,R' k->R k\/w.heap.size<=k):Chg R w w'' :=
 ⟨a.os.trans h.os,a.tape.trans h.tape,a.output.trans h.output,Nat.le_trans h.size a.size,λk d c=>(a.block k (by have:=h.size; omega) λb=>(f k b).elim c λe=>ZJ).trans (h.block k d c)⟩
theorem Chg.step (h:Chg R w w') (a:ZT w' w''):Chg R w w'':=h.trans (R':=λ_=>False) (.of_below a) λ_ e=>e.elim
theorem Chg.wider (h:Chg R w w') (c: ∀k,R k->R' k):Chg R' w w':=⟨h.os,h.tape,h.output,h.size,λk a b=>h.block k a λe=>b (c k e)⟩
theorem Chg.kept (h:Chg R w w') (d: ∀k,F k-> ¬R k):Kept F w w':= .of_blocks λb c a=>h.block b a (d b c)
theorem Chg.blk (h:Chg R w w') (a: ¬R g) (hb:Blk w g t cs):Blk w' g t cs:=(h.block g hb.lt a).trans hb
end
end Go.PF
namespace Go.Ord
def yo (r:Nat):Bool:=decide ((r<65\/90<r)/\(r<48\/57<r)/\r≠46)
theorem othR_iff {r:Nat}:yo r=false↔okB r:=by
 unfold yo okB;rw [decide_eq_false_iff_not];omega
theorem xh (h:i<s.size):(s.get! i).toNat=gP s i:=by
 unfold gP ByteArray.get!;rfl
theorem Gl (h:gP s i<128) (a:i<s.size):Utf8.decode s i=(gP s i,1):=by
 unfold Utf8.decode;have:(s.get! (i+0)).toNat=gP s i:=xh a;simp only [this];rw [if_pos h]
theorem decode_high (h: ¬gP s i<128) (c:i<s.size):128<=(Utf8.decode s i).1:=by
 unfold Utf8.decode;have:(s.get! (i+0)).toNat=gP s i:=xh c;simp only [this];rw [if_neg h]
 split
 .split
  .rename_i b a; simpa using a
  . decide
 .split
  .split
   .rename_i b a; simp at a ⊢; omega
   . decide
  .split
   .split
    .rename_i b a; simp at a ⊢; omega
    . decide
   . decide
theorem Ig (s:ByteArray): ∀(f a:Nat),s.size<=a+f->(Lib.idxFuncFrom yo true s f a= -1↔ ∀i,a<=i->i<s.size->okB (gP s i))
 | 0,a,h=>by
  exact ⟨λ_ i b g=>ZJ,λ_=>rfl⟩
 | f+1,a,h=>by
  unfold Lib.idxFuncFrom;by_cases d:a<s.size
  .rw [if_pos d];by_cases l:gP s a<128
   .rw [Gl l d];by_cases c:yo (gP s a)=true
    .rw [if_pos c];constructor
     . omega
     .intro b;have:=othR_iff.2 (b a ZC d);rw [this] at c;cases c
    .rw [if_neg c,Ig s f (a+1) ZJ];have j:=othR_iff.1 (by simpa using c);constructor
     .intro b i g k;by_cases e:i=a
      .subst e; exact j
      .exact b i ZJ k
     .intro b i g k;exact b i ZJ k
   .have m:=decode_high l d;have c:yo (Utf8.decode s a).1=true:=by
     exact decide_eq_true ZJ
    rw [if_pos c];constructor
    . omega
    .intro b;have:=b a ZC d;unfold okB at this;omega
  .rw [if_neg d];exact ⟨λ_ i b g=>ZJ,λ_=>rfl⟩
theorem P5 (s:ByteArray):decide (0<=Lib.idxFunc yo true s)= !Go.PF.dec (∀i,i<s.size->okB (gP s i)):=by
 have h:=Ig s s.size 0 ZJ;by_cases a: ∀i,i<s.size->okB (gP s i)
 .rw [Go.PF.aD a];unfold Lib.idxFunc;rw [h.2 λi _ b=>a i b];rfl
 .rw [Go.PF.aH a];have c:=λe=>a λi b=>h.1 e i ZB b;rcases Lib.idxFuncFrom_range yo true s s.size 0 with d|d
  .exact absurd d c
  .unfold Lib.idxFunc;rw [decide_eq_true ZJ];rfl
end Go.Ord
namespace Go.Proofs
open Go.Proofs.Tryz
section
open Go.Shelf
def mX:Go.Shelf.Ren:=⟨fun|156=>241|165=>291|166=>292|169=>293|240=>322|241=>323|276=>338|277=>339|n=>n,fun|31=>23|9=>9|3=>3|4=>4|0=>0|20=>20|72=>332|76=>335|70=>330|37=>328|75=>334|127=>355|164=>368|5=>5|80=>337|n=>n,fun|n=>n⟩
theorem tC:Go.Proofs.Lays.n156 prog mX:= {
 mixed:=ZK
 f156:=func241.trans (congrArg some ZK)
 f165:=func291.trans (congrArg some ZK)
 f166:=func292.trans (congrArg some ZK)
 f169:=func293.trans (congrArg some ZK)
 f240:=func322.trans (congrArg some ZK)
 f241:=func323.trans (congrArg some ZK)
 f276:=func338.trans (congrArg some ZK)
 f277:=func339.trans (congrArg some ZK)
 t0:=underlying0
 a0:=isAgg0
 z0:=sizeOf0
 v0:=zeroValue0
 t3:=underlying3
 a3:=isAgg3
 z3:=sizeOf3
 v3:=zeroValue3
 t4:=underlying4
 a4:=isAgg4
 z4:=sizeOf4
 v4:=zeroValue4
 t9:=underlying9
 a9:=isAgg9
 z9:=sizeOf9
 v9:=zeroValue9
 t20:=underlying20
 a20:=isAgg20
 z20:=sizeOf20
 v20:=zeroValue20
 t31:=underlying23
 a31:=isAgg23
 z31:=sizeOf23
 v31:=zeroValue23
 t37:=underlying328
 a37:=isAgg328
 z37:=sizeOf328
 v37:=zeroValue328
 t70:=underlying330
 a70:=isAgg330
 z70:=sizeOf330
 v70:=zeroValue330
 t72:=underlying332
 a72:=isAgg332
 z72:=sizeOf332
 v72:=zeroValue332
 t75:=underlying334
 a75:=isAgg334
 z75:=sizeOf334
 v75:=zeroValue334
 t76:=underlying335
 a76:=isAgg335
 z76:=sizeOf335
 v76:=zeroValue335
 t127:=underlying355
 a127:=isAgg355
 z127:=sizeOf355
 v127:=zeroValue355
 t164:=underlying368
 a164:=isAgg368
 z164:=sizeOf368
 v164:=zeroValue368}
theorem jq:Builder.Extra prog mX:= {
 sizeBuilder:=ZK
 liesBuilder:=ZK
 t5:=underlying5
 a5:=isAgg5
 z5:=sizeOf5
 v5:=zeroValue5
 infoByte:=ZK
 cellsByte:=ZK
 sizeByte:=ZK
 neB5:=ZL}
open Go.RowKit in
theorem Tryz.strings_Join_none (a:Option Addr) (c:Nat) (b:ByteArray) (w:World) :
  Calls prog 241 #[.slice a 0 c,.string b] w λe d=>e= .returned (.string ⟨#[]⟩)/\d=w:=Any.strings_Join_none tC jq a c b w
open Go.RowKit in
theorem Tryz.strings_Join (g o c:Nat) (xs:List ByteArray) (a:ByteArray) (w:World) (b: ∀(j:Nat) x,xs[j]?=some x->w.cell? ⟨g,o+j,none⟩=some (.string x)) (h:g<w.heap.size) (k:xs.length<=140737488355328) (d:xs.length<=c) (f:(Lib.join (xs.map (·.data.toList)) a.data.toList).length<=140737488355328) :
  Calls prog 241 #[.slice (some ⟨g,o,none⟩) xs.length c,.string a] w λe i=>e= .returned (.string ⟨(Lib.join (xs.map (·.data.toList)) a.data.toList).toArray⟩)/\ZT w i:=Any.strings_Join tC jq g o c xs a w b h k d f
def sZ:Go.Shelf.Ren:=⟨fun|171=>240|243=>290|246=>321|283=>334|284=>335|285=>336|286=>337|129=>217|317=>350|318=>351|319=>352|320=>353|337=>358|338=>359|n=>n,fun|3=>3|9=>9|2=>2|4=>4|171=>364|0=>0|53=>273|37=>328|5=>5|173=>366|212=>378|51=>234|20=>20|213=>379|46=>176|232=>383|233=>384|n=>n,fun|17=>1|18=>3|19=>4|n=>n⟩
theorem yD:Go.Proofs.LaysM.n171 prog sZ:= {
 mixed:=ZK
 f129:=func217.trans (congrArg some ZK)
 f171:=func240.trans (congrArg some ZK)
 f243:=func290.trans (congrArg some ZK)
 f246:=func321.trans (congrArg some ZK)
 f283:=func334.trans (congrArg some ZK)
 f284:=func335.trans (congrArg some ZK)
 f285:=func336.trans (congrArg some ZK)
 f286:=func337.trans (congrArg some ZK)
 f317:=func350.trans (congrArg some ZK)
 f318:=func351.trans (congrArg some ZK)
 f319:=func352.trans (congrArg some ZK)
 f320:=func353.trans (congrArg some ZK)
 f337:=func358.trans (congrArg some ZK)
 f338:=func359.trans (congrArg some ZK)
 t0:=underlying0
 a0:=isAgg0
 z0:=sizeOf0
 v0:=zeroValue0
 t2:=underlying2
 a2:=isAgg2
 z2:=sizeOf2
 v2:=zeroValue2
 t3:=underlying3
 a3:=isAgg3
 z3:=sizeOf3
 v3:=zeroValue3
 t4:=underlying4
 a4:=isAgg4
 z4:=sizeOf4
 v4:=zeroValue4
 t5:=underlying5
 a5:=isAgg5
 z5:=sizeOf5
 v5:=zeroValue5
 t9:=underlying9
 a9:=isAgg9
 z9:=sizeOf9
 v9:=zeroValue9
 t20:=underlying20
 a20:=isAgg20
 z20:=sizeOf20
 v20:=zeroValue20
 t37:=underlying328
 a37:=isAgg328
 z37:=sizeOf328
 v37:=zeroValue328
 t46:=underlying176
 a46:=isAgg176
 z46:=sizeOf176
 v46:=zeroValue176
 t51:=underlying234
 a51:=isAgg234
 z51:=sizeOf234
 v51:=zeroValue234
 t53:=underlying273
 a53:=isAgg273
 z53:=sizeOf273
 v53:=zeroValue273
 t171:=underlying364
 a171:=isAgg364
 z171:=sizeOf364
 v171:=zeroValue364
 t173:=underlying366
 a173:=isAgg366
 z173:=sizeOf366
 v173:=zeroValue366
 t212:=underlying378
 a212:=isAgg378
 z212:=sizeOf378
 v212:=zeroValue378
 t213:=underlying379
 a213:=isAgg379
 z213:=sizeOf379
 t232:=underlying383
 a232:=isAgg383
 z232:=sizeOf383
 v232:=zeroValue383
 t233:=underlying384
 a233:=isAgg384
 z233:=sizeOf384
 v233:=zeroValue384
 g17:=ZK
 g18:=ZK
 g19:=ZK
 i0:=ZK
 i2:=ZK
 i3:=ZK
 i4:=ZK
 i5:=ZK
 i9:=ZK
 i20:=ZK
 i37:=ZK
 i46:=ZK
 i51:=ZK
 i53:=ZK
 i171:=ZK
 i173:=ZK
 i212:=ZK
 i232:=ZK
 i233:=ZK
 m17:=ZK
 m18:=ZK
 m19:=ZK}
open Go.RowKit Go.Sort Go.Lib in
theorem Tryz.strconv_Itoa (n:Int) (d: -9223372036854775808<=n) (h1:n<=9223372036854775807) (w:World) (a:Lib.TabIs prog w "internal/strconv.uint64pow10" .u64 Lib.pow10Tab) :
  Calls prog 240 #[ZU n] w λe b=>e= .returned (.string ⟨(Lib.itoa n).toArray⟩)/\ ∃k c,b=grow (w.drewN k) c:=Any.strconv_Itoa yD n d h1 w a
def uC:Go.Shelf.Ren:=⟨fun|189=>173|125=>126|257=>259|128=>216|129=>217|294=>298|295=>299|296=>300|297=>301|298=>302|299=>303|216=>304|300=>305|301=>306|328=>328|329=>284|330=>285|331=>329|332=>330|215=>274|343=>349|n=>n,fun|28=>66|3=>3|46=>176|0=>0|51=>234|53=>273|4=>4|183=>266|182=>265|131=>110|5=>5|9=>9|218=>321|222=>325|228=>352|229=>291|n=>n,fun|n=>n⟩
theorem tu:Go.Proofs.Lays.n189 prog uC:= {
 mixed:=ZK
 f125:=func126.trans (congrArg some ZK)
 f128:=func216.trans (congrArg some ZK)
 f129:=func217.trans (congrArg some ZK)
 f189:=func173.trans (congrArg some ZK)
 f215:=func274.trans (congrArg some ZK)
 f216:=func304.trans (congrArg some ZK)
 f257:=func259.trans (congrArg some ZK)
 f294:=func298.trans (congrArg some ZK)
 f295:=func299.trans (congrArg some ZK)
 f296:=func300.trans (congrArg some ZK)
 f297:=func301.trans (congrArg some ZK)
 f298:=func302.trans (congrArg some ZK)
 f299:=func303.trans (congrArg some ZK)
 f300:=func305.trans (congrArg some ZK)
 f301:=func306.trans (congrArg some ZK)
 f328:=func328.trans (congrArg some ZK)
 f329:=func284.trans (congrArg some ZK)
 f330:=func285.trans (congrArg some ZK)
 f331:=func329.trans (congrArg some ZK)
 f332:=func330.trans (congrArg some ZK)
 f343:=func349.trans (congrArg some ZK)
 t0:=underlying0
 a0:=isAgg0
 z0:=sizeOf0
 v0:=zeroValue0
 t3:=underlying3
 a3:=isAgg3
 z3:=sizeOf3
 v3:=zeroValue3
 t4:=underlying4
 a4:=isAgg4
 z4:=sizeOf4
 v4:=zeroValue4
 t5:=underlying5
 a5:=isAgg5
 z5:=sizeOf5
 v5:=zeroValue5
 t9:=underlying9
 a9:=isAgg9
 z9:=sizeOf9
 v9:=zeroValue9
 t28:=underlying66
 a28:=isAgg66
 z28:=sizeOf66
 v28:=zeroValue66
 t46:=underlying176
 a46:=isAgg176
 z46:=sizeOf176
 v46:=zeroValue176
 t51:=underlying234
 a51:=isAgg234
 z51:=sizeOf234
 v51:=zeroValue234
 t53:=underlying273
 a53:=isAgg273
 z53:=sizeOf273
 v53:=zeroValue273
 t131:=underlying110
 a131:=isAgg110
 z131:=sizeOf110
 v131:=zeroValue110
 t182:=underlying265
 a182:=isAgg265
 z182:=sizeOf265
 v182:=zeroValue265
 t183:=underlying266
 a183:=isAgg266
 z183:=sizeOf266
 v183:=zeroValue266
 t218:=underlying321
 a218:=isAgg321
 z218:=sizeOf321
 v218:=zeroValue321
 t222:=underlying325
 a222:=isAgg325
 z222:=sizeOf325
 v222:=zeroValue325
 t228:=underlying352
 a228:=isAgg352
 z228:=sizeOf352
 v228:=zeroValue352
 t229:=underlying291
 a229:=isAgg291
 z229:=sizeOf291
 v229:=zeroValue291}
open Go.Sort Go.RowKit in
theorem Tryz.slices_Sort_int (a off cap:Nat) (b:List Int) (w:World) (h:Holds (Value.int .i64) w a off b.toArray) (c:a<w.heap.size) (d:b.length<4611686018427387904) :
  Calls prog 173 #[.slice (some ⟨a,off,none⟩) b.length cap] w λe f =>
   e= .returned (.tuple #[])/\ ∃n g,f=grow (putRow (Value.int .i64) (Sort.ahead w n) a off (b.mergeSort λx y=>decide (x<=y)).toArray) g:=Any.slices_Sort_int tu a off cap b w h c d
def tq:Go.Shelf.Ren:=⟨fun|17=>280|15=>318|20=>333|n=>n,fun|9=>9|23=>318|4=>4|3=>3|0=>0|21=>21|n=>n,fun|n=>n⟩
theorem yE:Go.Proofs.LaysGw.n17 prog tq:= {
 mixed:=ZK
 f15:=func318.trans (congrArg some ZK)
 f17:=func280.trans (congrArg some ZK)
 f20:=func333.trans (congrArg some ZK)
 t0:=underlying0
 a0:=isAgg0
 z0:=sizeOf0
 v0:=zeroValue0
 i0:=ZK
 t3:=underlying3
 a3:=isAgg3
 z3:=sizeOf3
 v3:=zeroValue3
 i3:=ZK
 t4:=underlying4
 a4:=isAgg4
 z4:=sizeOf4
 v4:=zeroValue4
 i4:=ZK
 t9:=underlying9
 a9:=isAgg9
 z9:=sizeOf9
 v9:=zeroValue9
 i9:=ZK
 t21:=underlying21
 a21:=isAgg21
 z21:=sizeOf21
 v21:=zeroValue21
 i21:=ZK
 t23:=underlying318
 a23:=isAgg318
 z23:=sizeOf318
 v23:=zeroValue318
 i23:=ZK}
open Go.RowKit Go.Lib in
theorem Tryz.strings_ContainsFunc_grows (g:Nat) (b:Array Value) (d: ∀a w,(callFunc g a).run prog w= .ok (.enter g a) w) (p:Nat->Bool) (s:ByteArray) (w:World) (hp:PredGrows prog g b p w) :
  Calls prog 280 #[.string s,.func (.func g) #[] b] w λe c=>e= .returned (.bool (decide (0<=Lib.idxFunc p true s)))/\ZT w c:=Any.strings_ContainsFunc_grows yE g b d p s w hp
def ry:Go.Shelf.Ren:=⟨fun|20=>174|n=>n,fun|22=>66|3=>3|4=>4|0=>0|n=>n,fun|n=>n⟩
theorem pu:Go.Proofs.Lays2.n20 prog ry:= {
 mixed:=ZK
 f20:=func174.trans (congrArg some ZK)
 t0:=underlying0
 a0:=isAgg0
 z0:=sizeOf0
 v0:=zeroValue0
 t3:=underlying3
 a3:=isAgg3
 z3:=sizeOf3
 v3:=zeroValue3
 t4:=underlying4
 a4:=isAgg4
 z4:=sizeOf4
 v4:=zeroValue4
 t22:=underlying66
 a22:=isAgg66
 z22:=sizeOf66
 v22:=zeroValue66
 i3:=ZK}
open Go.RowKit Go.Lib Go.Sort in
theorem Tryz.slices_Compact_int (a off cap:Nat) (b:List Int) (w:World) (g:Holds (Value.int .i64) w a off b.toArray) (d:b.length<=9223372036854775807) (c:b.length<=cap) :
  Calls prog 174 #[.slice (some ⟨a,off,none⟩) b.length cap] w λe f=>e= .returned (.slice (some ⟨a,off,none⟩) (Lib.compact b).length cap)/\ ∃q,f=putRow (Value.int .i64) (Sort.ahead w q) a off (Lib.compact b++List.replicate (b.length-(Lib.compact b).length) 0).toArray:=Any.slices_Compact_int pu a off cap b w g d c
open Go.RowKit Go.Lib Go.Sort in
theorem Tryz.slices_Compact_int_empty (a:Option Addr) (cap:Nat) (w:World) :
  Calls prog 174 #[.slice a 0 cap] w λe b=>e= .returned (.slice a 0 cap)/\b=w:=Any.slices_Compact_int_empty pu a cap w
open Go.RowKit Go.Sort in
theorem Tryz.slices_Sort_int_none (p:Option Addr) (cap:Nat) (w:World) :
  Calls prog 173 #[.slice p 0 cap] w λe a=>e= .returned (.tuple #[])/\a=w:=Any.slices_Sort_int_none tu p cap w
def vI:Go.Shelf.Ren:=⟨fun|6=>295|15=>126|14=>325|28=>216|29=>217|20=>340|21=>341|22=>342|23=>343|24=>344|25=>345|26=>346|27=>347|46=>354|47=>284|48=>285|49=>355|50=>356|57=>360|n=>n,fun|22=>39|24=>68|25=>106|3=>3|39=>176|0=>0|53=>234|55=>273|4=>4|46=>266|45=>265|50=>110|5=>5|9=>9|66=>321|70=>325|76=>352|77=>291|n=>n,fun|n=>n⟩
theorem El:Go.Proofs.SlLaysF0.n6 prog vI:= {
 mixed:=ZK
 f6:=⟨Tryz.f295.name,ZL,func295.trans (congrArg some ZK)⟩
 f14:=⟨Tryz.f325.name,ZL,func325.trans (congrArg some ZK)⟩
 f15:=func126.trans (congrArg some ZK)
 f20:=⟨Tryz.f340.name,ZL,func340.trans (congrArg some ZK)⟩
 f21:=⟨Tryz.f341.name,ZL,func341.trans (congrArg some ZK)⟩
 f22:=⟨Tryz.f342.name,ZL,func342.trans (congrArg some ZK)⟩
 f23:=⟨Tryz.f343.name,ZL,func343.trans (congrArg some ZK)⟩
 f24:=⟨Tryz.f344.name,ZL,func344.trans (congrArg some ZK)⟩
 f25:=⟨Tryz.f345.name,ZL,func345.trans (congrArg some ZK)⟩
 f26:=⟨Tryz.f346.name,ZL,func346.trans (congrArg some ZK)⟩
 f27:=⟨Tryz.f347.name,ZL,func347.trans (congrArg some ZK)⟩
 f28:=func216.trans (congrArg some ZK)
 f29:=func217.trans (congrArg some ZK)
 f46:=⟨Tryz.f354.name,ZL,func354.trans (congrArg some ZK)⟩
 f47:=func284.trans (congrArg some ZK)
 f48:=func285.trans (congrArg some ZK)
 f49:=⟨Tryz.f355.name,ZL,func355.trans (congrArg some ZK)⟩
 f50:=⟨Tryz.f356.name,ZL,func356.trans (congrArg some ZK)⟩
 f57:=⟨Tryz.f360.name,ZL,func360.trans (congrArg some ZK)⟩
 t0:=underlying0
 a0:=isAgg0
 z0:=sizeOf0
 v0:=zeroValue0
 t3:=underlying3
 a3:=isAgg3
 z3:=sizeOf3
 v3:=zeroValue3
 t4:=underlying4
 a4:=isAgg4
 z4:=sizeOf4
 v4:=zeroValue4
 t5:=underlying5
 a5:=isAgg5
 z5:=sizeOf5
 v5:=zeroValue5
 t9:=underlying9
 a9:=isAgg9
 z9:=sizeOf9
 v9:=zeroValue9
 t22:=underlying39
 a22:=isAgg39
 z22:=sizeOf39
 v22:=zeroValue39
 t25:=underlying106
 a25:=isAgg106
 z25:=sizeOf106
 v25:=zeroValue106
 t39:=underlying176
 a39:=isAgg176
 z39:=sizeOf176
 v39:=zeroValue176
 t45:=underlying265
 a45:=isAgg265
 z45:=sizeOf265
 v45:=zeroValue265
 t46:=underlying266
 a46:=isAgg266
 z46:=sizeOf266
 v46:=zeroValue266
 t50:=underlying110
 a50:=isAgg110
 z50:=sizeOf110
 v50:=zeroValue110
 t53:=underlying234
 a53:=isAgg234
 z53:=sizeOf234
 v53:=zeroValue234
 t55:=underlying273
 a55:=isAgg273
 z55:=sizeOf273
 v55:=zeroValue273
 t66:=underlying321
 a66:=isAgg321
 z66:=sizeOf321
 v66:=zeroValue321
 t70:=underlying325
 a70:=isAgg325
 z70:=sizeOf325
 v70:=zeroValue325
 t76:=underlying352
 a76:=isAgg352
 z76:=sizeOf352
 v76:=zeroValue352
 t77:=underlying291
 a77:=isAgg291
 z77:=sizeOf291
 v77:=zeroValue291}
end
end Go.Proofs
namespace Go.PF
open Go.RowKit
end Go.PF
namespace Go.Proofs.YtoleahhfkpkcjaaGreatDoor
open Go.Proofs.Tryz
open Go.PF Go.RowKit Go.Ord
attribute [local irreducible] TW CW KW DW
theorem FI (a b:ByteArray):(a.toList==b.toList)=true↔a=b:=by
 rw [beq_iff_eq];constructor
 .intro h;rw [ByteArray.toList_eq,ByteArray.toList_eq] at h;exact ByteArray.ext (Array.ext' h)
 .rintro rfl; rfl
noncomputable def sK:GKey prog 9 ByteArray:=Ms (RN prog 9 underlying9) (λa b=>FI a b)
theorem xC (a b:ByteArray):(a.toList==b.toList)=decide (a=b):=by
 by_cases h:a=b
 .rw [(FI a b).2 h,decide_eq_true h]
 .rw [decide_eq_false h]
  cases c:(a.toList==b.toList) with
  | true=>exact absurd ((FI a b).1 c) h
  | false=>rfl
theorem FP {x:Nat}:Gives prog 279 #[.int .i32 (x:Int)] w λu a=>ZT w a/\u= .bool (yo x):=by
 refine gv func279 ntmps279 ?_;refine aB ?_;refine aO rfl ⟨ZA,?_⟩;unfold yo;by_cases b:x<65<;>by_cases c:90<x<;>by_cases d:x<48<;>by_cases e:57<x<;>by_cases g:x=46<;>simp [b,c,d,e,g]<;>omega
theorem DU:Gives prog 280 #[.string s,.func (.func 279) #[] #[]] w λu b=>ZT w b/\u= .bool (!dec (∀i,i<s.size->okB (gP s i))):=by
 refine Calls.mono (Tryz.strings_ContainsFunc_grows 279 #[] (λa w=>jF Vh a w) yo s w λW x _ _=>Calls.mono (FP) ?_) ?_
 .rintro e b ⟨u,rfl,c,rfl⟩;exact ⟨rfl,c⟩
 .rintro e b ⟨rfl,h⟩;exact ⟨_,rfl,h,by rw [P5]⟩
theorem zm:Gives prog 206 #[.string s] w λu d=>ZT w d/\u= .bool (dec (gK s)):=by
 refine gv func206 ntmps206 ?_;refine aB ?_;refine aK rfl (λb=> ?_) (λa=> ?_)
 .refine aB ?_;refine aO rfl ⟨ZA,?_⟩;rw [aH λh=> ?_];have j:=h.1;have k:=h.2.1;simp at b;omega
 have c:1<=s.size/\s.size<=20:=by simp at a; omega
 refine aB ?_;refine aN rfl (DU) ?_;rintro y l ⟨e,rfl⟩;refine aB ?_;refine aO rfl ⟨e,?_⟩;by_cases h: ∀i,i<s.size->okB (gP s i)
 .rw [aD h,aD ⟨c.1,c.2,h⟩]; rfl
 .rw [aH h,aH λg=>h g.2.2]; rfl
theorem MX {l:List ByteArray} {k:FuncId} (J:List ByteArray->World->Prop) (B:World->Prop) (hl: ∀a W,J a W->SL eT F W v l) (G:enters prog k=true) (s:J [] w)
  (hp: ∀a x r W,l=a++x::r->J a W->Gives prog k (.string x::caps).toArray W λu z=> ∃b,u= .bool b/\(b=true->B z)/\(b=false->J (a++ [x]) z)) :
  Gives prog 319 #[v,.func (.func k) #[] caps.toArray] w λu t=>(u= ZU (-1)/\J l t)\/ ∃i:Nat,u= ZU (i:Int)/\B t:=by
 obtain ⟨A,j,rfl,_⟩:=(hl _ _ s).form;have y:=(hl _ _ s).len.2.2;refine gv func319 ntmps319 ?_;refine aB ?_;refine bT (λi:Nat=> [(0,none,.slice A l.length j),(1,none,.func (.func k) #[] caps.toArray),(7,none,ZU (l.length:Int)),(8,none,ZU (i:Int))])
  (λi W=>i<=l.length/\J (l.take i) W) (λi=>l.length-i) 0 [0,1,7,8] ⟨ZJ,s⟩ rfl ?_
 rintro i W ⟨H,h⟩;refine aB ?_;refine aI rfl (λC=> ?_) (λD=> ?_)
 .obtain ⟨x,m,E⟩:=eP (l:=l) (k:=i) ZJ;have d:=hl _ _ h;obtain ⟨I,rfl⟩:=d.addr ZJ;obtain ⟨n,c⟩:=ZE m;have e:l=l.take i++x::l.drop (i+1):=by rw [<-c,<-List.drop_eq_getElem_cons n,List.take_append_drop]
  refine aB ?_;refine aG rfl (d.getT m) ?_;refine fE rfl rfl G rfl (aA rfl ct aJ) (hp (l.take i) x (l.drop (i+1)) W e h) ?_;rintro u K ⟨b,rfl,o,p⟩;refine aB ?_;refine aK rfl (λg=> ?_) (λq=> ?_)
  .refine aB ?_;refine aO rfl (.inr ⟨i,rfl,o g⟩)
  .refine aB ?_;refine bH (i+1) [0,1,7,8] rfl ⟨ZJ,?_⟩ ZJ;have:l.take (i+1)=l.take i++ [x]:=by rw [ZG,m]; rfl
   rw [this];exact p q
 .have c:i=l.length:=ZJ;subst c;rw [List.take_length] at h;refine aB ?_;refine aO rfl (.inl ⟨rfl,h⟩)
theorem DT {l:List ByteArray} {k:FuncId} (J:List ByteArray->World->Prop) (e:World->Prop) (hl: ∀a W,J a W->SL eT F W v l) (j:enters prog k=true) (m:J [] w)
  (hp: ∀a x d W,l=a++x::d->J a W->Gives prog k (.string x::caps).toArray W λu h=> ∃b,u= .bool b/\(b=true->e h)/\(b=false->J (a++ [x]) h)) :
  Gives prog 281 #[v,.func (.func k) #[] caps.toArray] w λu g=>(u= .bool false/\J l g)\/(u= .bool true/\e g):=by
 refine gv func281 ntmps281 ?_;refine aB ?_;refine aN rfl (MX J e hl j m hp) ?_;rintro u n c;rcases c with ⟨rfl,c⟩|⟨i,rfl,c⟩
 .skip
  refine aB ?_;refine aO rfl (.inl ⟨by rw [decide_eq_false ZJ],c⟩)
 .skip
  refine aB ?_;refine aO rfl (.inr ⟨by rw [decide_eq_true ZJ],c⟩)
def SeenIs (w:World) (b:Nat) (ys:List ByteArray):Prop:= ∃m,MapL sK w b m/\(∀y,(∃v,(y,v)∈m)↔y∈ys)/\ ∀p∈m,p.2= .bool true
theorem SeenIs.put {m:List (ByteArray×Value)} (x:ByteArray) (hm: ∀y,(∃v,(y,v)∈m)↔y∈ys) (g: ∀p∈m,p.2= .bool true) (h:MapL sK w' b (jK m x (.bool true))):SeenIs w' b (ys++ [x]):=by
 refine ⟨_,h,λy=> ?_,λp d=> ?_⟩
 .rw [List.mem_append,List.mem_singleton];constructor
  .rintro ⟨v,a⟩;rcases mem_lput.1 a with e|⟨c,_⟩
   .cases e; exact .inr rfl
   .exact .inl ((hm y).1 ⟨v,c⟩)
  .intro f;by_cases e:y=x
   .subst e; exact ⟨_,mem_lput.2 (.inl rfl)⟩
   .obtain ⟨v,a⟩:=(hm y).2 (f.resolve_right e);exact ⟨v,mem_lput.2 (.inr ⟨a,e⟩)⟩
 .rcases mem_lput.1 d with e|⟨c,_⟩
  .rw [e]
  .exact g p c
theorem AR {x:ByteArray} (D:Blk w g 181 [.map (some b)]) (E:SeenIs w b ys) :
  Gives prog 282 #[.string x,.pointer (some ⟨g,0,none⟩)] w λu l=> ∃q,u= .bool q/\But b w l/\w.heap.size<=l.heap.size/\(q=true-> ¬(gK x/\x ∉ ys))/\(q=false->(gK x/\x ∉ ys)/\SeenIs l b (ys++ [x])):=by
 obtain ⟨m,z,i,s⟩:=E;refine gv func282 ntmps282 ?_;refine aB ?_;refine aN rfl (zm) ?_;rintro y F ⟨d,rfl⟩;have j:=D.next d;have k:=z.below d;refine aB ?_;by_cases a:gK x
 .rw [aD a];refine aP rfl rfl ?_;refine aG rfl (j.cell 0) ?_;refine aP rfl rfl ?_;refine aB ?_;refine aP rfl rfl ?_;refine ik sK x rfl rfl underlying181 Ua rfl rfl k ?_;intro v A;have n:v= .bool (dec (x∈ys)):=by
   rcases A with h|⟨h,rfl⟩
   .rw [aD ((i x).1 ⟨v,h⟩)];exact s _ h
   .rw [aH λB=> ?_];obtain ⟨u,C⟩:=(i x).2 B;exact h _ C rfl
  subst n;refine aB ?_;refine aK rfl (λe=> ?_) (λc=> ?_)
  .have o:x∈ys:=dec_iff.1 e;refine aB ?_;refine aO rfl ⟨true,rfl,But.of_below d,d.size,λ_ h=>h.2 o,λh=>(by cases h)⟩
  .have o:x ∉ ys:=λh=>by rw [aD h] at c; simp at c
   refine aB ?_;refine aG rfl (j.cell 0) ?_;refine aB ?_;refine dM sK x rfl underlying181 rfl rfl rfl k ?_;intro G t p r;refine aB ?_;refine aO rfl ⟨false,rfl,(But.of_below d).trans p,by have:=d.size; omega,λh=>(by cases h),λ_=>⟨⟨a,o⟩,SeenIs.put x i s r⟩⟩
 .rw [aH a];refine bJ (.bool false) rfl (by simp [aF]) rfl ?_;refine bJ (.bool false) rfl (by simp [aF]) rfl ?_;refine bJ (.bool false) rfl (by simp [aF]) rfl ?_;refine aB ?_;refine aK rfl (λe=> ?_) (λc=> ?_)
  .refine aB ?_;refine aO rfl ⟨true,rfl,But.of_below d,d.size,λ_ h=>a h.1,λh=>(by cases h)⟩
  .exact absurd c ZM
theorem DK {l:List ByteArray} {x:ByteArray} (hl:SL eT F w v l) :
  Gives prog 207 #[.string x,v] w λu R=>ZT w R/\u= .bool (dec ((∀c∈l,gK c/\c≠x)/\l.Nodup)):=by
 obtain ⟨A,S,rfl,_⟩:=hl.form;refine gv func207 ntmps207 ?_;refine aB ?_;refine eZ sK rfl rfl ?_;rintro b w1 U Y H I;refine aB ?_;refine rz sK x (vz:= .bool true) rfl underlying181 rfl rfl rfl I ?_;rintro Z a0 k s;refine aB ?_;refine lM rfl Up rfl is181.q rfl ?_;rintro g j E;refine aB ?_;refine dN rfl rfl (aA rfl ct aJ) ?_;have a1:=E.at_;have t:ZT w Z:=But.below H k ZJ;have J:SeenIs j b [x]:=by
  refine ⟨_,s.below E.below,λy=> ?_,λp hp=> ?_⟩
  .rw [List.mem_singleton];constructor
   .rintro ⟨u,hu⟩;rcases mem_lput.1 hu with e|⟨h,_⟩
    .cases e; rfl
    .cases h
   .rintro rfl;exact ⟨_,mem_lput.2 (.inl rfl)⟩
  .rcases mem_lput.1 hp with e|⟨h,_⟩
   .rw [e]
   .cases h
 have i:=t.step E.below;have K:g≠b:=by have:=s.lt; omega
 have m: ∀(d:List ByteArray) (y:ByteArray) (z:List ByteArray) (W:World),l=d++y::z->(But b j W/\j.heap.size<=W.heap.size/\((∀c∈d,gK c/\c≠x)/\d.Nodup)/\SeenIs W b ([x]++d))->Gives prog 282 #[.string y,.pointer (some ⟨g,0,none⟩)] W λu o=> ∃q,u= .bool q/\(q=true->But b j o/\j.heap.size<=o.heap.size/\ ¬((∀c∈l,gK c/\c≠x)/\l.Nodup))/\(q=false->But b j o/\j.heap.size<=o.heap.size/\((∀c∈d++ [y],gK c/\c≠x)/\(d++ [y]).Nodup)/\SeenIs o b ([x]++(d++ [y]))):=by
  rintro d y z W B ⟨n,M,⟨C,j4⟩,j5⟩;refine (AR (g:=g) (n.blk E.blk K) j5).mono ?_;rintro u o ⟨q,rfl,N,k2,k3,k4⟩;refine ⟨q,rfl,λL=>⟨n.trans N,ZJ,λ⟨G,D⟩=>k3 L ?_⟩,λL=> ?_⟩
  .rw [B] at G D;have O:=G y ZM;refine ⟨O.1,λhm=> ?_⟩;rcases ZH hm with h|h
   .rw [List.mem_singleton] at h;exact O.2 h
   .exact (List.nodup_append.1 D).2.2 y h y ZM rfl
  .obtain ⟨⟨G,D⟩,h3⟩:=k4 L;refine ⟨n.trans N,ZJ,⟨λc r=> ?_,?_⟩,by simpa using h3⟩
   .rcases ZH r with h|h
    .exact C c h
    .rw [List.mem_singleton] at h;subst h;exact ⟨G,λe=>D (by simp [e])⟩
   .refine List.nodup_append.2 ⟨j4,ZM,λa ha c r e=> ?_⟩;rw [List.mem_singleton] at r;subst r;subst e;exact D (List.mem_append_right _ ha)
 refine aN rfl (DT (F:=F) (caps:= [.pointer (some ⟨g,0,none⟩)]) (λd W=>But b j W/\j.heap.size<=W.heap.size/\((∀c∈d,gK c/\c≠x)/\d.Nodup)/\SeenIs W b ([x]++d)) (λW=>But b j W/\j.heap.size<=W.heap.size/\ ¬((∀c∈l,gK c/\c≠x)/\l.Nodup)) (λd W h=>hl.below (But.below i h.1 ZJ)) Vg ⟨But.of_below ZA,ZC,⟨λc r=>(by cases r),List.Pairwise.nil⟩,by simpa using J⟩ m) ?_;rintro u4 w4 h4;rcases h4 with ⟨rfl,n,M,C,_⟩|⟨rfl,n,M,C⟩
 .skip
  refine aB ?_;refine aO rfl ⟨But.below i n ZJ,by rw [aD C]; rfl⟩
 .skip
  refine aB ?_;refine aO rfl ⟨But.below i n ZJ,by rw [aH C]; rfl⟩
theorem oW {n m:Int}:Gives prog 205 #[ZU n,ZU m] w λu a=>ZT w a/\u= .bool (decide (0<=n/\n<=m)):=by
 refine gv func205 ntmps205 ?_;refine aB ?_;refine aO rfl ⟨ZA,ZM⟩
theorem Gm {r:Rc} (h:RcOK F w v r) :
  Gives prog 124 #[.agg (iq r v).toArray] w λu L=>ZT w L/\u= .bool (dec (Comp r)):=by
 have i:=h.ct;obtain ⟨A,M,rfl,_⟩:=i.form;have B:=i.len.2.2;refine gv func124 ntmps124 ?_;refine aB ?_;refine bS rfl rfl rfl rfl ?_;rintro W Y l;refine aB ?_;refine aG rfl (l.blk.fld rfl) ?_;refine il rfl rfl Nz rfl ct (aA rfl ct (aA rfl ct aJ)) (λ_=>oW) ?_;rintro Z o;refine aB ?_;refine aG rfl ((l.blk.next o).fld rfl) ?_;refine il rfl rfl Nz rfl id (aA rfl id (aA rfl ct aJ)) (λ_=>oW) ?_;rintro w3 t;refine aB ?_;refine aG rfl ((l.blk.next (o.step t)).fld rfl) ?_;refine il rfl rfl Nz rfl id (aA rfl id (aA rfl ct aJ)) (λ_=>oW) ?_;rintro w4 C;refine aB ?_;refine aG rfl ((l.blk.next ((o.step t).step C)).fld rfl) ?_;refine il (cap:= []) rfl rfl Vs rfl ct (aA rfl id aJ) (λ_=>zm) ?_;rintro w5 N;refine aB ?_;refine dC [0,1,2,3,28] rfl ?_;have m:=((o.step t).step C).step N;have n:=l.blk.next m;have b:=l.below.step m;have x:=i.below b;refine aK rfl (λe=> ?_) (λa=> ?_)
 .refine aB ?_;refine aO rfl ⟨b,?_⟩;rw [aH λd=> ?_];have D:=d.lab;have:=d.s1; have:=d.s2; have:=d.n1; have:=d.n2; have:=d.t1; have:=d.t2;rw [aD D] at e;simp [*] at e
 .have O:(0<=r.scn/\r.scn<=1000000)/\(0<=r.num/\r.num<=1000000)/\(0<=r.time/\r.time<=1000000)/\gK r.label:=by
   by_cases y:gK r.label
   .rw [aD y] at a;simp at a;exact ⟨ZJ,ZJ,ZJ,y⟩
   .rw [aH y] at a;simp at a
  obtain ⟨⟨E,G⟩,⟨H,I⟩,⟨J,K⟩,g⟩:=O;refine aB ?_;refine aG rfl (n.fld rfl) ?_;refine aB ?_;refine aI rfl (λj=> ?_) (λj=> ?_)
  .refine aB ?_;refine aG rfl (n.fld rfl) ?_;refine aB ?_;refine aO rfl ⟨b,?_⟩;by_cases q:r.cont= []
   .rw [aD ⟨E,G,H,I,J,K,g,.inl ⟨j,q⟩⟩];simp [q]
   .rw [aH λd=> ?_]
    .simp [q]
    .rcases d.kinds with ⟨_,h⟩|⟨h,_⟩
     .exact q h
     .omega
  .refine aB ?_;refine aI rfl (λk=> ?_) (λk=> ?_)
   .refine aB ?_;refine aG rfl (n.fld rfl) ?_;refine aB ?_;refine aG rfl (n.fld rfl) ?_;refine aB ?_;refine aG rfl (n.fld rfl) ?_;refine il (cap:= []) rfl rfl Vr rfl ct (aA rfl id (aA rfl id aJ)) (λ_=>DK x) ?_;rintro w6 R;refine aB ?_;refine aO rfl ⟨b.step R,?_⟩;by_cases s:RE r
    .rw [aD (p:=Comp r) ⟨E,G,H,I,J,K,g,s⟩];rcases s with ⟨h,_⟩|⟨_,D,S,U⟩
     .omega
     .rw [aD ⟨S,U⟩];simp;omega
    .rw [aH (p:=Comp r) λd=>s d.kinds];by_cases z:(∀c∈r.cont,gK c/\c≠r.label)/\r.cont.Nodup
     .have: ¬r.cont.length<=40:=λh=>s (.inr ⟨k,h,z.1,z.2⟩);simp;omega
     .rw [aH z];simp
   .refine aB ?_;refine aO rfl ⟨b,?_⟩;rw [aH λd=> ?_];rcases d.kinds with ⟨h,_⟩|⟨h,_⟩
    .exact j h
    .exact k h
theorem vJ {r:Rc} (hl:SL yh G w u l) (h:RcOK F w v r) :
  Gives prog 70 #[u,.agg (iq r v).toArray] w λx E=>ZT w E/\x= .bool (dec (Val l r)):=by
 have t:=h.ct;obtain ⟨A,H,rfl,_⟩:=t.form;obtain ⟨B,C,rfl,_⟩:=hl.form;have D:=hl.len.2.2;refine gv func70 ntmps70 ?_;refine aB ?_;refine bS rfl rfl rfl rfl ?_;rintro W Y b;refine aB ?_;refine aG rfl (b.blk.fld rfl) ?_;refine aB ?_;refine aG rfl (b.blk.fld rfl) ?_;refine aB ?_;refine dC [0,1,3,4,20] rfl ?_;refine aK rfl (λg=> ?_) (λd=> ?_)
 .refine aB ?_;refine aO rfl ⟨b.below,?_⟩;rw [aH λc=> ?_];have Z:=c.few;have h2:=c.comp.s1;obtain ⟨s,i,_⟩:=c.scan;have h3:=(ZE i).1;simp at g;omega
 .have I:l.length<=24/\0<=r.scn/\r.scn<l.length:=by
   simp at d;omega
  obtain ⟨j,J,K⟩:=I;obtain ⟨s,i,L⟩:=eP (l:=l) (k:=r.scn.toNat) ZJ;have m:=hl.below b.below;obtain ⟨ad,rfl⟩:=m.addr ZJ;obtain ⟨a,i1,i2,i3⟩:=SS.get m i;have M:((r.scn.toNat:Nat):Int)=r.scn:=ZJ;rw [M] at a;refine aB ?_;refine aG rfl (b.blk.fld rfl) ?_;refine aB ?_;refine fP rfl (a) ?_;refine fw rfl RF rfl is74.q rfl rfl ?_;rintro g2 w2 e;refine aB ?_;have y:=b.blk.next e.below;refine aG rfl (e.blk.fld rfl) ?_;refine aB ?_;refine aG rfl (e.blk.fld rfl) ?_;refine aB ?_;refine aG rfl (e.blk.fld rfl) ?_;refine aB ?_;refine aG rfl (e.blk.fld rfl) ?_;refine aB ?_;refine fP rfl (λ_ _ n=>y.fld n) ?_;refine il (cap:= []) rfl rfl VG rfl ct (aA rfl id aJ) (λ_=>Gm (h.below (b.below.step e.below))) ?_;rintro w3 N;refine aB ?_;refine aO rfl ⟨(b.below.step e.below).step N,?_⟩;by_cases c:Comp r
  .rw [aD c];by_cases q:ScOK s
   .rw [aD (p:=Val l r) ⟨j,c,s,i,q⟩];obtain ⟨O,R,S,U⟩:=q;simp [O,R,S,U]
   .rw [aH (p:=Val l r) λn=>q ?_]
    .rw [Value.bool.injEq,Bool.eq_false_iff];intro h;simp at h;exact q ⟨ZJ,ZJ,ZJ,ZJ⟩
    .obtain ⟨s',o,z⟩:=n.scan;rw [i] at o;cases o;exact z
  .rw [aH c,aH (p:=Val l r) λn=>c n.comp];simp
end Go.Proofs.YtoleahhfkpkcjaaGreatDoor
namespace Go.PF
open Go.RowKit
structure Bar (S:Nat->Prop) (w w':World):Prop where
 os:w'.os=w.os
 tape:w'.tape=w.tape
 output:w'.output=w.output
 size:w.heap.size<=w'.heap.size
 block: ∀k,k<w.heap.size-> ¬S k->w'.heap[k]?=w.heap[k]?
theorem Bar.refl (w:World):Bar S w w:=⟨rfl,rfl,rfl,ZC,λ_ _ _=>rfl⟩
theorem Bar.trans {S:Nat->Prop} {a b c:World} (h:Bar S a b) (k:Bar S b c):Bar S a c :=
 ⟨k.os.trans h.os,k.tape.trans h.tape,k.output.trans h.output,Nat.le_trans h.size k.size,λi d e=>(k.block i (Nat.lt_of_lt_of_le d h.size) e).trans (h.block i d e)⟩
theorem Bar.of_below (h:ZT w w'):Bar S w w':=⟨h.os,h.tape,h.output,h.size,λk a _=>h.block k a⟩
theorem Bar.step {a b c:World} (h:Bar S a b) (k:ZT b c):Bar S a c:=h.trans (.of_below k)
theorem Bar.below {w0:World} (h:Bar S w w') (hb:ZT w0 w) (c: ∀k,S k->w0.heap.size<=k):ZT w0 w' :=
 ⟨h.os.trans hb.os,h.tape.trans hb.tape,h.output.trans hb.output,Nat.le_trans hb.size h.size,λk a=>(h.block k (Nat.lt_of_lt_of_le a hb.size) (λb=>by have:=c k b; omega)).trans (hb.block k a)⟩
theorem Bar.grown {a b c:World} (h:Bar S a b) (d:b.grownBy c o) (i: ∀k,o=some k->S k\/a.heap.size<=k):Bar S a c :=
 ⟨d.os.trans h.os,d.tape.trans h.tape,d.output.trans h.output,Nat.le_trans h.size d.size,λk f g=>(d.block k (Nat.lt_of_lt_of_le f h.size) (λe=>by
  rcases i k e.symm with h|h
  .exact g h
  .omega)).trans (h.block k f g)⟩
theorem Bar.blk {k:Nat} (h:Bar S w w') (a:Blk w k t cs) (b: ¬S k):Blk w' k t cs:=(h.block k a.lt b).trans a
end Go.PF
namespace Go.Proofs.YtoleahhfkpkcjaaGreatDoor
open Go.Proofs.Tryz
open Go.PF Go.RowKit Go.Ord
section
def Am (xs:List Nat):List Value:=xs.map λi:Nat=>Value.int .i64 (i:Int)
structure IdxM (w:World) (lo b:Nat) (id:Bool) (own:Nat->Bool×ByteArray) (T:Nat) (R:ByteArray->Nat->Prop) (m:List (ByteArray×Value)):Prop where
 mp:MapL sK w b m
 low:b<lo
 miss: ∀k,(∀p∈m,p.1≠k)-> ∀j,¬R k j
 rows: ∀p∈m,∃xs:List Nat,OwnS w 3 1 p.2 xs.length (Am xs)/\xs.length<=T/\(∀j,j∈xs↔R p.1 j)/\ ∀g,p.2.ownBlock=some g->lo<=g/\own g=(id,p.1)
variable {w w1 w2:World} {lo b b' T T':Nat} {id id':Bool} {own:Nat->Bool×ByteArray} {R R':ByteArray->Nat->Prop} {m m':List (ByteArray×Value)}
theorem IdxM.start (h:MapL sK w b []) (hb:b<lo):IdxM w lo b id own 0 (λ_ _=>False) []:=⟨h,hb,λ_ _ _ h=>h,λp a=>by cases a⟩
theorem IdxM.below (h:IdxM w lo b id own T R m) (hb:ZT w w1):IdxM w1 lo b id own T R m :=
 ⟨h.mp.below hb,h.low,h.miss,λp a=>by obtain ⟨c,d,e⟩:=h.rows p a; exact ⟨c,d.below hb,e⟩⟩
theorem IdxM.congr (h:IdxM w lo b id own T R m) (a: ∀k j,R k j↔R' k j) (o:T<=T'):IdxM w lo b id own T' R' m :=
 ⟨h.mp,h.low,λk c j d=>h.miss k c j ((a k j).2 d),λp e=>by
  obtain ⟨f,g,i,l,n⟩:=h.rows p e;exact ⟨f,g,Nat.le_trans i o,λj=>(l j).trans (a _ j),n⟩⟩
theorem IdxM.look (h:IdxM w lo b id own T R m) (k:ByteArray): ∃v a,((k,v)∈m\/((∀p∈m,p.1≠k)/\v= .slice none 0 0))/\OwnS w 3 1 v a.length (Am a)/\a.length<=T/\(∀j,j∈a↔R k j)/\ ∀g,v.ownBlock=some g->lo<=g/\own g=(id,k):=by
 by_cases c: ∃v,(k,v)∈m
 .obtain ⟨v,d⟩:=c;obtain ⟨a,i,l,n,o⟩:=h.rows _ d;exact ⟨v,a,.inl d,i,l,n,o⟩
 .have f: ∀p∈m,p.1≠k:=λp q e=>c ⟨p.2,by rw [<-e]; exact q⟩;exact ⟨_,[],.inr ⟨f,rfl⟩,OwnS.nil _ _ _,ZB,λj=>⟨λh=>(by cases h),λr=>absurd r (h.miss k f j)⟩,λg s=>by simp [Value.ownBlock] at s⟩
def Mc (own:Nat->Bool×ByteArray) (v:Value) (p:Bool×ByteArray) (g:Nat):Bool×ByteArray:=if v.ownBlock=some g then p else own g
theorem IdxM.put {v':Value} {xs:List Nat} (h:IdxM w lo b id own T R m) (M:xs.length<=T) (B: ∀j,j∈xs↔R k j) (l: ∀g,v.ownBlock=some g->lo<=g/\own g=(id,k))
  (d:KM w v.ownBlock 3 1 (xs.length+1) (Am xs++ [ZU (i:Int)]) v' w1) (J:lo<=w.heap.size) (K:w.grownBy w1 v.ownBlock) (C:MapL sK w2 b (jK m k v')) (u:But b w1 w2) :
  IdxM w2 lo b id (Mc own v' (id,k)) (T+1) (λo j=>R o j\/(o=k/\j=i)) (jK m k v'):=by
 have c: ∀g,v'.ownBlock=some g->lo<=g:=λg a=>by
  rcases d.2 with e|⟨G,e,h⟩
  .rw [e] at a; exact (l g a).1
  .rw [e] at a; cases a; omega
 have D:=h.low;refine ⟨C,h.low,λo x j y=> ?_,λp q=> ?_⟩
 .rcases y with y|⟨rfl,_⟩
  .by_cases e:o=k
   .exact x _ (mem_lput.2 (.inl rfl)) e.symm
   .exact h.miss o (λp q E=>x p (mem_lput.2 (.inr ⟨q,λr=>e (by rw [<-E,r])⟩)) E) j y
  .exact x _ (mem_lput.2 (.inl rfl)) rfl
 .rcases mem_lput.1 q with rfl|⟨q,f⟩
  .refine ⟨xs++ [i],?_,ZO,λj=> ?_,λg a=>⟨c g a,?_⟩⟩
   .have n:OwnS w1 3 1 v' (xs++ [i]).length (Am (xs++ [i])):=by
     have:=d.1;simpa [Am] using this
    exact n.kept λg a=>u.block g (n.lt a) (λe=>by have:=c g a; cases e; omega)
   .rw [List.mem_append,List.mem_singleton,B];simp
   .unfold Mc;rw [if_pos a]
  .obtain ⟨z,n,L,H,s⟩:=h.rows p q;refine ⟨z,?_,ZJ,λj=> ?_,λg a=>⟨(s g a).1,?_⟩⟩
   .have F:=n.kept λg a=>K.block g (n.lt a) (λe=>by
     have A:=(l g e.symm).2;have t:=(s g a).2;rw [A] at t;exact f (Prod.mk.inj t).2.symm)
    exact F.kept λg a=>u.block g (F.lt a) (λe=>by have:=(s g a).1; cases e; omega)
   .rw [H];exact ⟨.inl,λh=>h.resolve_right λh=>f h.1⟩
   .unfold Mc;rw [if_neg λe=> ?_]
    .exact (s g a).2
    rcases d.2 with r|⟨G,r,I⟩
    .have A:=(l g (r ▸ e)).2;have t:=(s g a).2;rw [A] at t;exact f (Prod.mk.inj t).2.symm
    .rw [r] at e;cases e;have:=n.lt a;omega
theorem IdxM.other {v':Value} {zs:List Value} (h:IdxM w lo b id own T R m) (o:id'≠id) (d: ∀g,v.ownBlock=some g->lo<=g/\own g=(id',k))
  (f:KM w v.ownBlock 3 1 n zs v' w1) (F:lo<=w.heap.size) (hb:b≠b') (G:b'<lo) (x:w.grownBy w1 v.ownBlock) (q:But b' w1 w2) :
  IdxM w2 lo b id (Mc own v' (id',k)) T R m:=by
 have r:=h.low;have s: ∀g,g<w.heap.size->(v.ownBlock≠some g)->g≠b'->w2.heap[g]?=w.heap[g]?:=λg t y c =>
  (q.block g (Nat.lt_of_lt_of_le t x.size) (λe=>c (by cases e; rfl))).trans (x.block g t (λe=>y e.symm))
 refine ⟨h.mp.kept (s b h.mp.lt (λe=>by have:=(d b e).1; omega) hb),h.low,h.miss,λp z=> ?_⟩;obtain ⟨A,j,B,C,i⟩:=h.rows p z;have c:=λg a e=>by
  have D:=(d g e).2;have u:=(i g a).2;rw [D] at u;exact o (Prod.mk.inj u).1
 refine ⟨A,j.kept λg a=>s g (j.lt a) (c g a) (λe=>by have:=(i g a).1; omega),B,C,λg a=>⟨(i g a).1,?_⟩⟩;unfold Mc;rw [if_neg λe=> ?_]
 .exact (i g a).2
 rcases f.2 with l|⟨H,l,E⟩
 .exact c g a (l ▸ e)
 .rw [l] at e;cases e;have:=j.lt a;omega
end
attribute [local irreducible] TW CW KW DW
def TS (l:List Sc) (r:List Rc) (i:Nat) (k:ByteArray) (j:Nat):Prop:=j<i/\ ∃x,r[j]?=some x/\Val l x/\x.label=k
def RH (l:List Sc) (r:List Rc) (i:Nat) (k:ByteArray) (j:Nat):Prop:=j<i/\ ∃x,r[j]?=some x/\Val l x/\k∈x.cont
def Ou (w:World) (l:List Sc) (r:List Rc) (lo bl bh i:Nat):Prop:= ∃own m1 m2,IdxM w lo bl false own i (TS l r i) m1/\IdxM w lo bh true own (i*40) (RH l r i) m2
theorem Pt (e:r[i]?=some x) (f: ¬Val l x) (k:ByteArray) (j:Nat):TS l r i k j↔TS l r (i+1) k j:=by
 constructor
 .rintro ⟨c,a⟩; exact ⟨ZJ,a⟩
 .rintro ⟨c,y,a,b,d⟩;refine ⟨?_,y,a,b,d⟩;rcases ZI j i with h|h
  .exact h
  .have:j=i:=ZJ;subst this;rw [e] at a;cases a;exact absurd b f
theorem Pz (e:r[i]?=some x) (f: ¬Val l x) (k:ByteArray) (j:Nat):RH l r i k j↔RH l r (i+1) k j:=by
 constructor
 .rintro ⟨c,a⟩; exact ⟨ZJ,a⟩
 .rintro ⟨c,y,a,b,d⟩;refine ⟨?_,y,a,b,d⟩;rcases ZI j i with h|h
  .exact h
  .have:j=i:=ZJ;subst this;rw [e] at a;cases a;exact absurd b f
theorem Pv (c:r[i]?=some x) (f:Val l x) (k:ByteArray) (j:Nat):(TS l r i k j\/(k=x.label/\j=i))↔TS l r (i+1) k j:=by
 constructor
 .rintro (⟨d,a⟩|⟨rfl,rfl⟩)
  .exact ⟨ZJ,a⟩
  .exact ⟨ZJ,x,c,f,rfl⟩
 .rintro ⟨d,y,a,e,b⟩;rcases ZI j i with h|h
  .exact .inl ⟨h,y,a,e,b⟩
  .have:j=i:=ZJ;subst this;rw [c] at a;cases a;exact .inr ⟨b.symm,rfl⟩
theorem PC (c:r[i]?=some x) (f:Val l x) (k:ByteArray) (j:Nat):(RH l r i k j\/(j=i/\k∈x.cont))↔RH l r (i+1) k j:=by
 constructor
 .rintro (⟨d,a⟩|⟨rfl,a⟩)
  .exact ⟨ZJ,a⟩
  .exact ⟨ZJ,x,c,f,a⟩
 .rintro ⟨d,y,a,e,b⟩;rcases ZI j i with h|h
  .exact .inl ⟨h,y,a,e,b⟩
  .have:j=i:=ZJ;subst this;rw [c] at a;cases a;exact .inr ⟨rfl,b⟩
theorem Sj (hl:SS w u l) (hr:SR w v r) (ck:r.length<=400) :
  Gives prog 77 #[u,v] w λx w'=>ZT w w'/\ ∃R m n lo,x= .pointer (some ⟨R,0,none⟩)/\Blk w' R 205 [u,v,.map (some m),.map (some n)]/\Ou w' l r lo m n r.length:=by
 obtain ⟨A,G,rfl,_⟩:=hr.form;obtain ⟨B,o,rfl,_⟩:=hl.form;have bz:=hr.len.2.2;refine gv func77 ntmps77 ?_;refine aB ?_;refine eZ sK rfl rfl ?_;rintro m w1 c4 c5 b7 b8;refine eZ sK rfl rfl ?_;rintro n w2 c6 c7 ai b9;refine jr [0,1,2,3] [.tmp 10,.tmp 11,.tmp 12,.tmp 13] [.slice B l.length o,.slice A r.length G,.map (some m),.map (some n)] rfl rfl rfl (aA rfl ct (aA rfl ct (aA rfl ct (aA rfl ct aJ)))) ZK ?_;refine bS rfl rfl rfl rfl ?_;rintro R s f3;refine aB ?_;have c8:=f3.at_;have c9:=f3.size;have a4:ZT w s:=(b7.step ai).step f3.below;have ba:IdxM s s.heap.size m false (λ_=>(false,ByteArray.empty)) 0 (λ_ _=>False) []:=IdxM.start ((b8.below ai).below f3.below) ZJ;have bb:IdxM s s.heap.size n true (λ_=>(false,ByteArray.empty)) 0 (λ_ _=>False) []:=IdxM.start (b9.below f3.below) ZJ;refine bT (λi:Nat=> [(0,none,.slice B l.length o),(5,none,.pointer (some ⟨R,0,none⟩)),(16,none,.slice A r.length G),(17,none,ZU (r.length:Int)),(18,none,ZU (i:Int))])
  (λi W=>i<=r.length/\Bar (λk=>k=m\/k=n) s W/\Ou W l r s.heap.size m n i) (λi=>r.length-i) 0 [0,5,16,17,18] ⟨ZB,Bar.refl _,_,_,_,ba.congr (λk j=>⟨False.elim,λh=>by have:=h.1; omega⟩) ZC,bb.congr (λk j=>⟨False.elim,λh=>by have:=h.1; omega⟩) ZJ⟩ rfl ?_
 rintro i W ⟨hi,t,H,m1,m2,U,ac⟩;have a5: ∀k,(k=m\/k=n)->w.heap.size<=k:=λk E=>by rcases E with rfl|rfl<;>omega
 have Y:ZT w W:=t.below a4 a5;have ca:=t.size;have aj:Blk W R 205 [.slice B l.length o,.slice A r.length G,.map (some m),.map (some n)]:=t.blk f3.blk ZJ;refine aB ?_;refine aI rfl (λcb=> ?_) (λcc=> ?_)
 .obtain ⟨x,hx,ce⟩:=eP (l:=r) (k:=i) ZJ;have ak:=hr.below Y;obtain ⟨ad,rfl⟩:=ak.addr ZJ;obtain ⟨cv,Z,a0⟩:=SR.get ak hx;obtain ⟨C,I,rfl,_⟩:=a0.ct.form;have bc:=a0.ct.len.2.2;refine aB ?_;refine fP rfl (Z) ?_;refine gq rfl rfl BC ?_;rintro g4 w4 f4;refine aB ?_;refine gI rfl rfl rfl f4.blk is57.q rfl rfl rfl ?_;rintro w5 al ae c0;refine aB ?_;have cf:=f4.at_;have af:ZT W w5:=But.below f4.below ae ZJ;refine fP rfl (λ_ _ h=>al.fld h) ?_;refine aN rfl (vJ ((hl.below Y).below af) (a0.below af)) ?_;rintro y6 w6 ⟨am,rfl⟩;have a:=af.step am;have q:=t.step a;by_cases hv:Val l x
  .rw [aD hv];refine aB ?_;refine dC [0,5,6,7,16,17,18,26] rfl ?_;refine aK rfl (λh1=> ?_) (λS=> ?_)
   .exact absurd h1 ZM
   have cg:x.cont.length<=40:=by
    rcases hv.comp.kinds with ⟨_,h⟩|⟨_,h,_⟩
    .rw [h]; exact ZB
    .exact h
   obtain ⟨rv,xs,bd,hO,be,bf,J⟩:=U.look x.label;have z:=U.below a;have an:=ac.below a;have ao:=hO.below a;have ap:=aj.next a;have ag:=al.next am;have bg: ∀k,rv.ownBlock=some k->k<w6.heap.size:=λk E=>ao.lt E;have a6:rv.ownBlock≠some R:=λe=>by have:=(J _ e).1; omega
   have a7:rv.ownBlock≠some m:=λe=>by have:=(J _ e).1; omega
   have K:rv.ownBlock≠some g4:=λe=>by have:=hO.lt e; omega
   refine aB ?_;refine dP mixed λW7 bi=> ?_;refine jT rv.ownBlock 42 16 ZK ZK rfl rfl bi ?_;refine fO rfl rfl rfl ct ?_;refine iZ rfl rfl rfl ct ?_;refine bP rfl rfl if205_2.q rfl ct ?_;refine gU rfl rfl io203.q rfl ct (λ_=>⟨ap.fld rfl,a6⟩) ?_;refine bP rfl rfl if57_4.q rfl ct ?_;refine gU rfl rfl io9.q rfl ct (λ_=>⟨ag.fld rfl,K⟩) ?_;refine fO rfl rfl rfl ct ?_;refine iZ rfl rfl rfl ct ?_;refine bP rfl rfl if205_2.q rfl ct ?_;refine gU rfl rfl io203.q rfl ct (λ_=>⟨ap.fld rfl,a6⟩) ?_;refine bP rfl rfl if57_4.q rfl ct ?_;refine gU rfl rfl io9.q rfl ct (λ_=>⟨ag.fld rfl,K⟩) ?_;refine xY sK x.label rfl rfl underlying203 KQ rfl rfl z.mp a7 bd ?_;refine fO rfl rfl rfl ct ?_;refine qH 3 _ bg rfl rfl rfl kC (cO rfl ct dR) rfl rfl rfl rfl rfl ?_;refine zV [ZU (i:Int)] rfl rfl rfl ji rfl ao rfl rfl rfl (λu hu=>by simp at hu; subst hu; rfl) ZJ ZJ ?_;refine uE (qh [0,5,6,7,16,17,18,30,32] [(0,_,_),(5,_,_),(6,_,_),(7,_,_),(16,_,_),(17,_,_),(18,_,_),(30,_,_),(32,_,_)] rfl [42] rfl λvs w8 L bj=>gy ?_);obtain ⟨bk,rfl,a1⟩:=Sats.one bj;refine eu ZK ZK rfl ?_;have bm:MapL sK w8 m m1:=z.mp.kept (L.block m z.mp.lt (λe=>a7 e.symm));refine dM sK x.label rfl underlying203 rfl rfl rfl bm ?_;rintro w9 c1 d bn
   have a1:KM w6 rv.ownBlock 3 1 (xs.length+1) (Am xs++ [ZU (i:Int)]) bk w8:=a1;have a8:s.heap.size<=w6.heap.size:=q.size;have aq:=(z.put be bf J a1 a8 L bn d).congr (Pv hx hv) ZC;have ar:=an.other (id':=false) ZL J a1 a8 ZJ ZJ L d;have ah:Bar (λk=>k=m\/k=n) s w9:=(q.grown L (λk E=> .inr (J k E).1)).grown d (λk E=>by cases E; exact .inl (.inl rfl));have bo:s.heap.size<=g4:=ZJ;have bp:Blk w9 g4 57 (iq x (.slice C x.cont.length I)):=d.blk (GB.blk L ag K) ZJ;refine dG (bD [0,5,6,7,16,17,18] [(0,_,_),(5,_,_),(6,_,_),(7,_,_),(16,_,_),(17,_,_),(18,_,_)] rfl (iB ?_));refine kG rfl (bD [0,5,6,7,16,17,18] [(0,_,_),(5,_,_),(6,_,_),(7,_,_),(16,_,_),(17,_,_),(18,_,_)] rfl (aL ?_));refine aB ?_;refine aG rfl (bp.fld rfl) ?_;refine aB ?_;refine dC [0,5,6,7,16,17,18,44,45,46] rfl ?_;refine bT (λc:Nat=> [(0,none,.slice B l.length o),(5,none,.pointer (some ⟨R,0,none⟩)),(6,none,ZU (i:Int)),(16,none,.slice (some ad) r.length G),(17,none,ZU (r.length:Int)),(18,none,ZU (i:Int)),(44,none,.slice C x.cont.length I),(45,none,ZU (x.cont.length:Int)),(46,none,ZU (c:Int))])
    (λc W'=>c<=x.cont.length/\Bar (λk=>k=m\/k=n) s W'/\ ∃H m1 m2,IdxM W' s.heap.size m false H (i+1) (TS l r (i+1)) m1/\IdxM W' s.heap.size n true H (i*40+c) (λk j=>RH l r i k j\/(j=i/\k∈x.cont.take c)) m2) (λc=>x.cont.length-c) 0 [0,5,6,16,17,18,44,45,46] ⟨ZB,ah,_,_,_,aq,ar.congr (λk j=>⟨.inl,λh=>h.resolve_right λh=>by simp at h⟩) ZC⟩ rfl ?_
   rintro c W' ⟨hc,b,au,n1,n2,av,F⟩;have aw:ZT w W':=b.below a4 a5;have a9:Blk W' R 205 [.slice B l.length o,.slice (some ad) r.length G,.map (some m),.map (some n)]:=b.blk f3.blk ZJ;have aa:=b.size;have ab:SL eT (λk=>k<w.heap.size) W' (.slice C x.cont.length I) x.cont:=a0.ct.mono λch u2 hF bq=>(World.cell?_of_block ((aw.block _ hF).trans (Y.block _ hF).symm)).trans bq;refine aB ?_;refine aI rfl (λc2=> ?_) (λc3=> ?_)
   .obtain ⟨y,hy,ci⟩:=eP (l:=x.cont) (k:=c) ZJ;obtain ⟨cd,rfl⟩:=ab.addr ZJ;obtain ⟨M,ys,ax,ay,br,bs,p⟩:=F.look y;have az: ∀k,M.ownBlock=some k->k<W'.heap.size:=λk E=>ay.lt E;have N:M.ownBlock≠some R:=λe=>by have:=(p _ e).1; omega
    have O:M.ownBlock≠some n:=λe=>by have:=(p _ e).1; omega
    refine aB ?_;refine aG rfl (ab.getT hy) ?_;refine aB ?_;refine dP mixed λcj b0=> ?_;refine jT M.ownBlock 63 14 ZK ZK rfl rfl b0 ?_;refine fO rfl rfl rfl ct ?_;refine iZ rfl rfl rfl ct ?_;refine bP rfl rfl if205_3.q rfl ct ?_;refine gU rfl rfl io203.q rfl ct (λ_=>⟨a9.fld rfl,N⟩) ?_;refine fO rfl rfl rfl ct ?_;refine fO rfl rfl rfl ct ?_;refine iZ rfl rfl rfl ct ?_;refine bP rfl rfl if205_3.q rfl ct ?_;refine gU rfl rfl io203.q rfl ct (λ_=>⟨a9.fld rfl,N⟩) ?_;refine fO rfl rfl rfl ct ?_;refine xY sK y rfl rfl underlying203 KQ rfl rfl F.mp O ax ?_;refine fO rfl rfl rfl ct ?_;refine qH 3 _ az rfl rfl rfl kC (cO rfl ct dR) rfl rfl rfl rfl rfl ?_;refine zV [ZU (i:Int)] rfl rfl rfl ji rfl ay rfl rfl rfl (λu hu=>by simp at hu; subst hu; rfl) ZJ ZJ ?_;refine uE (qh [0,5,6,9,16,17,18,44,45,46,53,54] [(0,_,_),(5,_,_),(6,_,_),(9,_,_),(16,_,_),(17,_,_),(18,_,_),(44,_,_),(45,_,_),(46,_,_),(53,_,_),(54,_,_)] rfl [63] rfl λvs b1 D b2=>gy ?_);obtain ⟨bt,rfl,a2⟩:=Sats.one b2;refine eu ZK ZK rfl ?_;have b3:MapL sK b1 n n2:=F.mp.kept (D.block n F.mp.lt (λe=>O e.symm));refine dM sK y rfl underlying203 rfl rfl rfl b3 ?_;rintro bu bv g b4
    have a2:KM W' M.ownBlock 3 1 (ys.length+1) (Am ys++ [ZU (i:Int)]) bt b1:=a2;have b5:=F.put br bs p a2 aa D b4 g;have b6:=av.other (id':=true) ZL p a2 aa ZJ ZJ D g;have a3:Bar (λk=>k=m\/k=n) s bu:=(b.grown D (λk E=> .inr (p k E).1)).grown g (λk E=>by cases E; exact .inl (.inr rfl));refine dG (bD [0,5,6,9,16,17,18,44,45,46] [(0,_,_),(5,_,_),(6,_,_),(9,_,_),(16,_,_),(17,_,_),(18,_,_),(44,_,_),(45,_,_),(46,_,_)] rfl (iB ?_));refine kG rfl (bD [0,5,6,9,16,17,18,44,45,46] [(0,_,_),(5,_,_),(6,_,_),(9,_,_),(16,_,_),(17,_,_),(18,_,_),(44,_,_),(45,_,_),(46,_,_)] rfl (fB (aL ?_)));refine aB ?_;refine bH (c+1) [0,5,6,16,17,18,44,45,46] rfl ⟨ZJ,a3,_,_,_,b6,b5.congr (λk j=> ?_) ZJ⟩ ZJ;rw [ZG,hy];simp only [Option.toList_some,List.mem_append,List.mem_singleton];constructor
    .rintro ((h|⟨h1,S⟩)|⟨h1,S⟩)
     .exact .inl h
     .exact .inr ⟨h1,.inl S⟩
     .exact .inr ⟨S,.inr h1⟩
    .rintro (h|⟨h1,S|S⟩)
     .exact .inl (.inl h)
     .exact .inl (.inr ⟨h1,S⟩)
     .exact .inr ⟨S,h1⟩
   .have bw:c=x.cont.length:=ZJ;subst bw;refine aB ?_;refine bH (i+1) [0,5,16,17,18] rfl ⟨ZJ,b,au,n1,n2,av,F.congr (λk j=> ?_) ZJ⟩ ZJ;rw [List.take_length];exact PC hx hv k j
  .rw [aH hv];refine aB ?_;refine aK rfl (λh1=> ?_) (λS=> ?_)
   .refine aB ?_;refine bH (i+1) [0,5,16,17,18] rfl ⟨ZJ,q,H,m1,m2,(U.below a).congr (Pt hx hv) ZJ,(ac.below a).congr (Pz hx hv) ZJ⟩ ZJ
   .exact absurd S ZM
 .refine aB ?_;have bx:i=r.length:=ZJ;subst bx;refine aO rfl ⟨Y,R,m,n,_,rfl,aj,H,m1,m2,U,ac⟩
end Go.Proofs.YtoleahhfkpkcjaaGreatDoor
