/- Texts of this claim,joined. -/
import Derived.Test.YtoleahhfkpkcjaaGreatDoorQD
import Derived.KernelRfl
import Derived.Laws.Cover1
import Derived.Maps.RangeRun
set_option linter.unusedSimpArgs false
set_option linter.unusedVariables false
set_option maxRecDepth 100000
set_option maxHeartbeats 4000000
variable {t e et:Go.TypeId} {vs cs cap:List Go.Value} {xs:List Go.Operand} {ts:Array Go.TypeId} {α:Type} {R:Go.Value->Go.World->Prop} {T:Go.PF.Ty α} {K:Go.Act->Go.World->Prop} {q p:Prop} {k:Go.FuncId} {u v:Go.Value} {A:Option Go.Addr} {w w':Go.World} {Q:Go.Exit->Go.Act->Go.World->Prop} {f c:Go.Operand} {m bm n id s it l sz:Nat} {x:α} {cf:Option Bool} {parts:Array (Nat×Go.Operand)} {o r:Option Nat} {ad:Go.Addr} {i:Int} {af':Array Go.Edge} {E:Go.PF.Env} {a b:Go.Code} {pos':String}
namespace Go.PF
open Go.RowKit
section
structure Wp (q:Prop):Prop where
 q:q
theorem bK (h:p:=by repeat (first|assumption|exact ZA|refine Below.step ?_ (Fresh.below ZR)|refine Below.step ?_ ZR|refine But.below ?_ ZR ZJ)):p:=h
class Sta (q:Prop) (w':outParam World) (p:outParam (World->Prop)):Prop where
 go: ∀ {w},p w->ZT w w'->q
theorem XJ {p:World->Prop} [Sta q w' p] (h:p w) (b:ZT w w'):q:=Sta.go h b
instance {w:World} {g t:Nat} {cs:List Value}:Sta (Blk w g t cs) w (λw=>Blk w g t cs):=⟨λh b=>h.next b⟩
instance {α:Type} {T:Ty α} {F:Nat->Prop} {w:World} {v:Value} {l:List α}:Sta (SL T F w v l) w (λw=>SL T F w v l):=⟨λh b=>h.below b⟩
instance {w:World} {e sz n:Nat} {v:Value} {xs:List Value}:Sta (OwnS w e sz v n xs) w (λw=>OwnS w e sz v n xs):=⟨λh b=>h.below b⟩
instance {α:Type} {T:Ty α} {w:World} {e b:Nat} {v:Value} {ps:List (List Value×α)}:Sta (RowB T w e b v ps) w (λw=>RowB T w e b v ps):=⟨λh b=>h.step b⟩
theorem tr (h:p:=by first|assumption|exact XJ ZR bK|exact XJ (Fresh.blk ZR) bK|exact bK):p:=h
section
variable {w w1:World} {g t:Nat} {cs:List Value} {j:Nat} {v:Value} {ad:Addr} {F:Nat->Prop} {n cap i:Nat}
theorem ldB (h:Blk w1 g t cs) (b:ZT w1 w) (hj:cs[j]?=some v):w.cell? (Addr.add ⟨g,0,none⟩ j)=some v:=(h.next b).fld hj
theorem U1 (h:Blk w1 g t cs) (b:ZT w1 w) (hj:cs[j]?=some v):w.cell? ⟨g,j,none⟩=some v:=by rw [(h.next b).cell,hj]
def Uy:Option Addr->Addr
 | some a=>a
 | none=>⟨0,0,none⟩
theorem SL.isSome {α:Type} {T:Ty α} {A:Option Addr} {l:List α} (h:SL T F w (.slice A n cap) l) (hl:0<l.length):A.isSome=true:=by
 obtain ⟨a,rfl⟩:=h.addr hl;rfl
def vP:Value->Addr
 | .slice (some a) _ _=>a
 | _=>⟨0,0,none⟩
def nk (u:Value) (n:Nat):Prop:= ∃A c,u= .slice A n c
theorem SL.isl {l:List α} (h:SL T F w u l):nk u l.length:=by
 obtain ⟨A,c,e,_⟩:=h;exact ⟨A,c,e⟩
theorem IF {l:List α} {i:Int} (h:SL T F w u l) (b:0<=i) (h1:i<(l.length:Int)): ∃a c,u= .slice (some (vP u)) a c/\0<=i/\i<(a:Int):=by
 obtain ⟨A,c,rfl,_⟩:=id h;obtain ⟨d,rfl⟩:=h.addr ZJ;exact ⟨_,_,rfl,b,h1⟩
class FnT {α:Type} (T:Ty α) (f:outParam (α->List Value)):Prop where
 q: ∀F w cs x,T.rep F w cs x->cs=f x
instance:FnT aS (λx=> [ZU x]):=⟨λ_ _ _ _ h=>h.1⟩
instance:FnT boolT (λx=> [.bool x]):=⟨λ_ _ _ _ h=>h⟩
instance:FnT eT (λx=> [.string x]):=⟨λ_ _ _ _ h=>h.1⟩
theorem SO {f:α->List Value} {l:List α} (h:SL T F w1 (.slice A n cap) l) (b:ZT w1 w) (p:l[i]?=some x) (r:FnT T f): ∀j v,(f x)[j]?=some v->w.cell? (((Uy A).add ((i:Int).toNat*T.n)).add j)=some v:=λj v c=>by
 obtain ⟨s,a,d,t,u,e⟩:=h.below b;obtain ⟨y,g,k,_,m,o⟩:=e i x p;cases d;subst k;exact m j v ((r.q F w g x o).symm ▸ c)
theorem UW {f:α->List Value} {l:List α} (h:SL T F w1 (.slice A n cap) l) (b:ZT w1 w) (a:l[i]?=some x) (c:FnT T f) (hm:T.n=m) (hj:(f x)[j]?=some v):w.cell? (((Uy A).add ((i:Int).toNat*m)).add j)=some v:=by
 subst hm; exact SO h b a c j v hj
theorem add_zero' (a:Addr):a.add 0=a:=by unfold Addr.add; split<;>simp_all
theorem UZ {f:α->List Value} {l:List α} (h:SL T F w1 (.slice A n cap) l) (b:ZT w1 w) (a:l[i]?=some x) (c:FnT T f) (hm:T.n=m) (hj:(f x)[0]?=some v):w.cell? ((Uy A).add ((i:Int).toNat*m))=some v:=by
 subst hm; have:=SO h b a c 0 v hj; rwa [add_zero'] at this
theorem UX {f:α->List Value} {l:List α} (h:SL T F w1 (.slice A n cap) l) (b:ZT w1 w) (a:l[i]?=some x) (c:FnT T f) (hm:T.n=m): ∀j v,(f x)[j]?=some v->w.cell? (((Uy A).add ((i:Int).toNat*m)).add j)=some v:=by
 subst hm; exact SO h b a c
theorem UY {f:α->List Value} {l:List α} (h:SL T F w1 (.slice (some ad) n cap) l) (b:ZT w1 w) (a:l[i]?=some x) (c:FnT T f) (hm:T.n=m) (hj:(f x)[0]?=some v):w.cell? (ad.add ((i:Int).toNat*m))=some v:=UZ h b a c hm hj
theorem UU {f:α->List Value} {l:List α} (h:SL T F w1 (.slice (some ad) n cap) l) (b:ZT w1 w) (a:l[i]?=some x) (c:FnT T f) (hm:T.n=m) (hj:(f x)[j]?=some v):w.cell? ((ad.add ((i:Int).toNat*m)).add j)=some v:=UW h b a c hm hj
theorem Q9 {f:α->List Value} {l:List α} (h:SL T F w1 (.slice (some ad) n cap) l) (b:ZT w1 w) (a:l[i]?=some x) (c:FnT T f) (hm:T.n=m): ∀j v,(f x)[j]?=some v->w.cell? ((ad.add ((i:Int).toNat*m)).add j)=some v:=UX h b a c hm
theorem SN {f:α->List Value} {l:List α} (h:SL T F w1 u l) (b:ZT w1 w) (a:l[i]?=some x) (d:FnT T f) (hm:T.n=m): ∀j v,(f x)[j]?=some v->w.cell? (((vP u).add ((i:Int).toNat*m)).add j)=some v:=by
 obtain ⟨A,c,rfl,_⟩:=id h;obtain ⟨e,rfl⟩:=h.addr (by have:=(ZE a).1; omega);exact Q9 h b a d hm
theorem WV {f:α->List Value} {l:List α} (h:SL T F w1 u l) (b:ZT w1 w) (a:l[i]?=some x) (c:FnT T f) (hm:T.n=m) (hj:(f x)[j]?=some v):w.cell? (((vP u).add ((i:Int).toNat*m)).add j)=some v:=SN h b a c hm j v hj
theorem US {f:α->List Value} {l:List α} (h:SL T F w1 u l) (b:ZT w1 w) (a:l[i]?=some x) (c:FnT T f) (hm:T.n=m) (hj:(f x)[0]?=some v):w.cell? ((vP u).add ((i:Int).toNat*m))=some v:=by have:=SN h b a c hm 0 v hj; rwa [add_zero'] at this
theorem Rb (h:w1.cell? ad=some v) (b:ZT w1 w):w.cell? ad=some v:=(b.cell (block_lt_of_cell h)).trans h
theorem XQ (h: ∀j v,cs[j]?=some v->w1.cell? (ad.add j)=some v) (b:ZT w1 w) (hj:cs[j]?=some v):w.cell? (ad.add j)=some v:=Rb (h j v hj) b
theorem U0 (h:Blk w1 g t cs) (b:ZT w1 w): ∀j v,cs[j]?=some v->w.cell? (Addr.add ⟨g,0,none⟩ j)=some v:=λ_ _ a=>ldB h b a
theorem UT (h: ∀j v,cs[j]?=some v->w1.cell? (ad.add j)=some v) (b:ZT w1 w): ∀j v,cs[j]?=some v->w.cell? (ad.add j)=some v:=λ_ _ a=>XQ h b a
end
theorem ld1 (h:p:=by
 first
 | assumption
 | (apply ldB; assumption; exact bK; exact rfl)
 | (apply ldB; exact Fresh.blk ZR; exact bK; exact rfl)
 | (apply U1; assumption; exact bK; exact rfl)
 | (apply U1; exact Fresh.blk ZR; exact bK; exact rfl)
 | (apply UY; assumption; exact bK; (first|assumption|exact ZD ZJ); exact inferInstance; exact rfl; exact rfl)
 | (apply UZ; assumption; exact bK; (first|assumption|exact ZD ZJ); exact inferInstance; exact rfl; exact rfl)
 | (apply US; assumption; exact bK; (first|assumption|exact ZD ZJ); exact inferInstance; exact rfl; exact rfl)
 | (apply WV; assumption; exact bK; (first|assumption|exact ZD ZJ); exact inferInstance; exact rfl; exact rfl)
 | (apply UU; assumption; exact bK; (first|assumption|exact ZD ZJ); exact inferInstance; exact rfl; exact rfl)
 | (apply UW; assumption; exact bK; (first|assumption|exact ZD ZJ); exact inferInstance; exact rfl; exact rfl)
 | (apply XQ; assumption; exact bK; exact rfl)
 | (apply Rb; assumption; exact bK)):p:=h
theorem ldS (h:p:=by
 first
 | assumption
 | exact U0 ZR bK
 | exact U0 (Fresh.blk ZR) bK
 | exact UT ZR bK
 | (apply SN; assumption; exact bK; (first|assumption|exact ZD ZJ); exact inferInstance; exact rfl)
 | (apply Q9; assumption; exact bK; (first|assumption|exact ZD ZJ); exact inferInstance; exact rfl)
 | (apply UX; assumption; exact bK; (first|assumption|exact ZD ZJ); exact inferInstance; exact rfl)
 ):p:=h
section
variable {P:Program} {r:Option Nat} {Q:Exit->Act->World->Prop} {N:Nat} {ds:List Deferred} {ops rest:List Oper} {E:Env} {D:DE} {w:World} {G:Option Bool} {Fin:DE->Prop} {md:Mode}
variable {d:Option Tmp} {ty:TypeId} {pos:String} {af:Array Edge} {gu:Option (Nat×Bool)}
variable {x y z:Operand} {cx cy cz:Option Bool} {fn:Func}
theorem Oc {ρ:Operand->Value} {k:IntKind} {fs:Array Field} (f:P.underlying t=some (.array l e)) (g:P.underlying e=some (.struct fs)) (hs:(P.info? e).map (·.size)=some 1) (h:ρ x= .agg cs.toArray) (j:ρ y= .int k i) (m:0<=i/\i<(l:Int)) (b:cs[i.toNat]?=some v) :
  (execOp ρ ⟨d,.index t x y,ty,pos,af,gu⟩).run P w= .ok (.value (.agg #[v])) w:=by
 have a:=(ZE b).1;have c:(cs.drop i.toNat).take 1= [v]:=by rw [List.drop_eq_getElem_cons a,(ZE b).2]; rfl
 simp only [execOp]; rw [h,j];simp [Instr.index,run_underlying f,asIntOf,m,run_sizeOf hs,part,isAgg,run_underlying g,c]
theorem KA {t e:TypeId} {l:Nat} {k:IntKind} {i:Int} {cs:List Value} {v:Value} {fs:Array Field} (b:P.underlying t=some (.array l e)) (c:P.underlying e=some (.struct fs)) (hs:(P.info? e).map (·.size)=some 1)
  (h:(aC N d,ev E x,ev E y)=(true,some (none,.agg cs.toArray),some (none,.int k i))) (f:0<=i/\i<(l:Int)) (g:cs[i.toNat]?=some v)
  (next:TW P r Q N ds ops rest (ins E d none (.agg #[v])) w):TW P r Q N ds ops (⟨d,.index t x y,ty,pos,af,none⟩::rest) E w:=by
 simp only [Prod.mk.injEq] at h;exact fZ rfl h.1 rfl (λ_ _ a=>Oc b c hs (a.eval h.2.1 trivial) (a.eval h.2.2 trivial) f g) next
theorem eD (cs:List Value) (h:(aC N d,evs E (parts.toList.map (·.2)))=(true,some vs))
  (next:TW P r Q N ds ops rest (ins E d none (.agg cs.toArray)) w) (hb:P.built t ((parts.toList.map (·.1)).zip vs)=some cs.toArray:=by kernel_rfl):TW P r Q N ds ops (⟨d,.build t parts,ty,pos,af,none⟩::rest) E w:=by
 simp only [Prod.mk.injEq] at h;refine jr (parts.toList.map (·.1)) (parts.toList.map (·.2)) _ rfl h.1 ?_ (fJ h.2) hb next
 have: ∀l:List (Nat×Operand),l=(l.map (·.1)).zip (l.map (·.2)):=λl=>by
  induction l with
  | nil=>rfl
  | cons a l ih=>rw [List.map_cons,List.map_cons,List.zip_cons_cons,<-ih]
 exact this _
theorem IE (h:(aC N d,evs E (parts.toList.map (·.2)))=(true,some vs))
  (next:TW P r Q N ds ops rest (ins E d none (.agg (vs.flatMap λv=>v.cells.toList).toArray)) w) (hb:P.built t ((parts.toList.map (·.1)).zip vs)=some (vs.flatMap λv=>v.cells.toList).toArray:=by kernel_rfl):TW P r Q N ds ops (⟨d,.build t parts,ty,pos,af,none⟩::rest) E w:=eD _ h next hb
theorem Oo [Und P t (.slice e)]:Val P ⟨d,.call ⟨.builtin .len,#[x],#[t]⟩,ty,pos,af,gu⟩ [x] [u] (nk u n) (ZU (n:Int)) :=
 ⟨rfl,ZP,λ⟨A,c,e⟩=>by subst e; exact V.lenSlice.run trivial⟩
theorem fM {k:IntKind} [Und P t (.slice e)] [Sz P e sz]:Val P ⟨d,.indexAddr t x y,ty,pos,af,gu⟩ [x,y] [u,.int k i] (∃l c,u= .slice (some (vP u)) l c/\0<=i/\i<(l:Int)) (.pointer (some ((vP u).add (i.toNat*sz)))) :=
 ⟨rfl,ZQ,λ⟨l,c,e,a,b⟩ ρ w h=>V.indexAddr.run ⟨a,b⟩ ρ w (by rw [h,<-e])⟩
theorem sU {c:Nat} {k:IntKind} [Und P t (.slice e)] [Sz P e sz]:Val P ⟨d,.indexAddr t x y,ty,pos,af,gu⟩ [x,y] [.slice A l c,.int k i] (A.isSome=true/\0<=i/\i<(l:Int)) (.pointer (some ((Uy A).add (i.toNat*sz)))):=by
 cases A with
 | none=>exact ⟨rfl,ZQ,λh=>by cases h.1⟩
 | some a=>exact ⟨rfl,ZQ,λh=>(V.indexAddr).run h.2⟩
theorem zH {c:Nat} {k:IntKind} [Und P t (.slice e)] [Sz P e sz]:Val P ⟨d,.slice t x (some y) none none,ty,pos,af,gu⟩ [x,y] [.slice (some ad) l c,.int k i] (0<=i/\i<=(l:Int)/\i<(c:Int)) (.slice (some (ad.add (i.toNat*sz))) (l-i.toNat) (c-i.toNat)):=by
 have h:=mW (P:=P) (d:=d) (x:=x) (y:=y) (A:=some ad) (l:=l) (c:=c) (k:=k) (i:=i) (t:=t) (ty:=ty) (pos:=pos) (af:=af) (gu:=gu);refine ⟨h.nd,h.mem,λa ρ w f=> ?_⟩;have b:=h.run ⟨a.1,a.2.1⟩ ρ w f;rw [if_neg ZJ] at b;exact b
theorem Oq {s s':ByteArray} {t':TypeId}:Val P ⟨d,.binOp .gtr t x y t',ty,pos,af,gu⟩ [x,y] [.string s,.string s'] True (.bool (!(Op.bytesLess s.toList s'.toList||s.toList==s'.toList))) :=
 ⟨rfl,ZQ,λ_ ρ w h=>by
  obtain ⟨a,b⟩:=iI h;simp only [execOp]; rw [a,b,eqGuard_gtr,binOp_string_gtr]; rfl⟩
theorem TP [One P t] (h:(gd ops E gu,aC N d,ev E x)=(some G,true,some (cx,.pointer (some ad)))) (a:w.cell? ad=some v) (b:aF G->aF cx)
  (next:TW P r Q N ds ops rest (ins E d G v) w):TW P r Q N ds ops (⟨d,.load t x,ty,pos,af,gu⟩::rest) E w:=aG h a next b
theorem TY [One P t] (h:(fD ops D gu,aC N d,dev D x)=(some G,true,some (cx,.ex (.pointer (some ad))))) (a:w.cell? ad=some v) (b:aF G->aF cx)
  (next:DW P N ds md ops w Fin rest (bE D d G (.ex v))):DW P N ds md ops w Fin (⟨d,.load t x,ty,pos,af,gu⟩::rest) D:=dF h a next b
theorem TQ [Sr P t n] (h:(gd ops E gu,aC N d,ev E x)=(some G,true,some (cx,.pointer (some ad)))) (a: ∀j v,cs[j]?=some v->w.cell? (ad.add j)=some v) (hl:cs.length=n) (b:aF G->aF cx)
  (next:TW P r Q N ds ops rest (ins E d G (.agg cs.toArray)) w):TW P r Q N ds ops (⟨d,.load t x,ty,pos,af,gu⟩::rest) E w:=fP h a next hl b
theorem OL [Sr P t n] (h:(fD ops D gu,aC N d,dev D x)=(some G,true,some (cx,.ex (.pointer (some ad))))) (a: ∀j v,cs[j]?=some v->w.cell? (ad.add j)=some v) (hl:cs.length=n) (b:aF G->aF cx)
  (next:DW P N ds md ops w Fin rest (bE D d G (.ex (.agg cs.toArray)))):DW P N ds md ops w Fin (⟨d,.load t x,ty,pos,af,gu⟩::rest) D:=jY h a next hl b
theorem TX {fn:Fn} {cap:List Operand} {cs:List (Option Bool)} (h:(fD ops D gu,aC N d,vF D cap)=(some G,true,some (cs,vs))) (f:uF G cs)
  (next:DW P N ds md ops w Fin rest (bE D d G (.ex (.func fn #[] vs.toArray)))):DW P N ds md ops w Fin (⟨d,.makeFunc fn #[] cap.toArray,ty,pos,af,gu⟩::rest) D:=by
 simp only [Prod.mk.injEq] at h;exact Ew h.1 h.2.1 (λb a g c e=>jm c e b h.2.2 f) next
theorem jB (h:Wp q) (imp:Wp q->p:=by
  intro hq
  repeat (first
   | refine bJ (.bool false) rfl ZR rfl ?_
   | ((first|apply aM zH); exact rfl; (first|exact ⟨ct,trivial⟩|exact ⟨ct,ct,trivial⟩|exact ⟨id,trivial⟩|(repeat (first|exact trivial|(apply And.intro; (first|exact ct|exact id|exact cZ|(simp_all [aF]; done)))))); (first|exact λ_=>trivial|exact λ_=>rfl|(intro h; (try dsimp only); (first|omega|(simp [aF] at h; omega)))))
   | ((first|apply aM lL|apply aM mW|apply aM zI|apply aM bX|apply aM eQ|apply aM ve|apply aM Iz|apply aM IA|apply aM IB|apply aM Eh|apply aM Eg|apply aM IC|apply aM uY|apply aM Iy|apply aM zJ|apply aM V.lenSlice|apply aM mo|apply aM V.indexAddr|apply aM qa|apply aM (uB rfl)|apply aM RD|apply aM RA|apply aM vS|apply aM iT); exact rfl; (first|exact ⟨ct,trivial⟩|exact ⟨ct,ct,trivial⟩|exact ⟨id,trivial⟩|(repeat (first|exact trivial|(apply And.intro; (first|exact ct|exact id|exact cZ|(simp_all [aF]; done)))))); (first|exact λ_=>trivial|exact λ_=>rfl|(intro h; (try dsimp only); (first|omega|(simp [aF] at h; omega)))))
   | (apply aM sU; exact rfl; (first|exact ⟨ct,trivial⟩|exact ⟨ct,ct,trivial⟩|exact ⟨id,trivial⟩|(repeat (first|exact trivial|(apply And.intro; (first|exact ct|exact id|exact cZ|(simp_all [aF]; done)))))); (intro h; (try simp [aF] at h); (try dsimp only); exact ⟨SL.isSome ZR ZJ,ZJ,ZJ⟩))
   | (apply aM Oo; exact rfl; (first|exact ⟨ct,trivial⟩|exact ⟨ct,ct,trivial⟩|exact ⟨id,trivial⟩|(repeat (first|exact trivial|(apply And.intro; (first|exact ct|exact id|exact cZ|(simp_all [aF]; done)))))); (intro _; (first|assumption|exact SL.isl ZR)))
   | (apply aM fM; exact rfl; (first|exact ⟨ct,trivial⟩|exact ⟨ct,ct,trivial⟩|exact ⟨id,trivial⟩|(repeat (first|exact trivial|(apply And.intro; (first|exact ct|exact id|exact cZ|(simp_all [aF]; done)))))); (intro h; (try simp [aF] at h); (try dsimp only); exact IF ZR ZJ ZJ))
   | (apply zK; exact rfl; exact rfl; exact rfl; (first|exact ct|exact id|exact cZ|(simp_all [aF]; done)); exact rfl; (first|exact pT|exact Cw|exact Cv|exact qA|exact uR))
   | (apply jS; exact rfl; exact rfl; exact rfl; (first|exact ct|exact id|exact cZ|(simp_all [aF]; done)); exact rfl; (first|exact pT|exact Cw|exact Cv|exact qA|exact uR))
   | ((first|apply aM Bj|apply aM Bi|apply aM mi|apply aM On|apply aM Oq|apply aM xK|apply aM Om|apply aM sW|apply aM Ot|apply aM Oj); exact rfl; (first|exact ⟨ct,trivial⟩|exact ⟨ct,ct,trivial⟩|exact ⟨id,trivial⟩|(repeat (first|exact trivial|(apply And.intro; (first|exact ct|exact id|exact cZ|(simp_all [aF]; done)))))); (first|exact λ_=>trivial|exact λ_=>rfl|(intro h; (try dsimp only); (first|omega|(simp [aF] at h; omega)))))
   | ((first|apply aM Bl|apply aM Ol); exact rfl; (first|exact ⟨ct,trivial⟩|exact ⟨ct,ct,trivial⟩|exact ⟨id,trivial⟩|(repeat (first|exact trivial|(apply And.intro; (first|exact ct|exact id|exact cZ|(simp_all [aF]; done)))))); (first|exact λ_=>trivial|exact λ_=>rfl|(intro h; (try dsimp only); (first|omega|(simp [aF] at h; omega)))))
   | (apply zL; exact rfl; exact rfl; exact Und.q; exact rfl; (first|exact ct|exact id|exact cZ|(simp_all [aF]; done)))
   | refine dG ?_
   | refine fQ ?_
   | refine dK ?_
   | refine aL ?_
   | refine oh ?_
   | refine tT ?_
   | refine pJ ?_
   | refine Eu ?_
   | refine fB ?_
   | refine qj ?_
   | refine kV ?_
   | refine iO ?_
   | (refine zQ ?_ ?_; exact rfl)
   | refine zR ?_
   | refine EA ?_
   | refine zP ?_
   | refine zN ?_
   | refine zO ?_
   | refine EC ?_
   | refine iB ?_
   | refine kG rfl ?_
   | refine eu ZK (by decide +kernel) rfl ?_
   | (apply TP; exact rfl; exact ld1; (first|exact ct|exact id|exact cZ|(simp_all [aF]; done)))
   | (apply TQ; exact rfl; exact ldS; exact rfl; (first|exact ct|exact id|exact cZ|(simp_all [aF]; done)))
   | (apply dN; exact rfl; exact rfl; exact fJ rfl)
   | (apply pF; exact rfl; exact rfl; exact Und.q; exact rfl; (first|exact ct|exact id|exact cZ|(simp_all [aF]; done)))
   )
  exact hq.q):p:=imp h
theorem rn (h:q) (imp:Wp q->p:=by exact λh=>jB h):p:=imp ⟨h⟩
theorem Hz (h:Wp q) (imp:Wp q->p:=by
  intro hq
  repeat (first
   | refine kP (.bool false) rfl ZR rfl rfl ?_
   | ((first|apply bM zH); exact rfl; (first|exact ⟨ct,trivial⟩|exact ⟨ct,ct,trivial⟩|exact ⟨id,trivial⟩|(repeat (first|exact trivial|(apply And.intro; (first|exact ct|exact id|exact cZ|(simp_all [aF]; done)))))); (first|exact λ_=>trivial|exact λ_=>rfl|(intro h; (try dsimp only); (first|omega|(simp [aF] at h; omega)))))
   | ((first|apply bM lL|apply bM mW|apply bM zI|apply bM bX|apply bM eQ|apply bM ve|apply bM Iz|apply bM IA|apply bM IB|apply bM Eh|apply bM Eg|apply bM IC|apply bM uY|apply bM Iy|apply bM zJ|apply bM V.lenSlice|apply bM mo|apply bM V.indexAddr|apply bM qa|apply bM (uB rfl)|apply bM RD|apply bM RA|apply bM vS|apply bM iT); exact rfl; (first|exact ⟨ct,trivial⟩|exact ⟨ct,ct,trivial⟩|exact ⟨id,trivial⟩|(repeat (first|exact trivial|(apply And.intro; (first|exact ct|exact id|exact cZ|(simp_all [aF]; done)))))); (first|exact λ_=>trivial|exact λ_=>rfl|(intro h; (try dsimp only); (first|omega|(simp [aF] at h; omega)))))
   | (apply bM sU; exact rfl; (first|exact ⟨ct,trivial⟩|exact ⟨ct,ct,trivial⟩|exact ⟨id,trivial⟩|(repeat (first|exact trivial|(apply And.intro; (first|exact ct|exact id|exact cZ|(simp_all [aF]; done)))))); (intro h; (try simp [aF] at h); (try dsimp only); exact ⟨SL.isSome ZR ZJ,ZJ,ZJ⟩))
   | (apply bM Oo; exact rfl; (first|exact ⟨ct,trivial⟩|exact ⟨ct,ct,trivial⟩|exact ⟨id,trivial⟩|(repeat (first|exact trivial|(apply And.intro; (first|exact ct|exact id|exact cZ|(simp_all [aF]; done)))))); (intro _; (first|assumption|exact SL.isl ZR)))
   | (apply bM fM; exact rfl; (first|exact ⟨ct,trivial⟩|exact ⟨ct,ct,trivial⟩|exact ⟨id,trivial⟩|(repeat (first|exact trivial|(apply And.intro; (first|exact ct|exact id|exact cZ|(simp_all [aF]; done)))))); (intro h; (try simp [aF] at h); (try dsimp only); exact IF ZR ZJ ZJ))
   | (apply zT; exact rfl; exact rfl; exact rfl; (first|exact ct|exact id|exact cZ|(simp_all [aF]; done)); exact rfl; (first|exact pT|exact Cw|exact Cv|exact qA|exact uR))
   | (apply xV; exact rfl; exact rfl; exact rfl; (first|exact ct|exact id|exact cZ|(simp_all [aF]; done)); exact rfl; (first|exact pT|exact Cw|exact Cv|exact qA|exact uR))
   | ((first|apply bM Bj|apply bM Bi|apply bM mi|apply bM On|apply bM Oq|apply bM xK|apply bM Om|apply bM sW|apply bM Ot|apply bM Oj); exact rfl; (first|exact ⟨ct,trivial⟩|exact ⟨ct,ct,trivial⟩|exact ⟨id,trivial⟩|(repeat (first|exact trivial|(apply And.intro; (first|exact ct|exact id|exact cZ|(simp_all [aF]; done)))))); (first|exact λ_=>trivial|exact λ_=>rfl|(intro h; (try dsimp only); (first|omega|(simp [aF] at h; omega)))))
   | ((first|apply bM Bl|apply bM Ol); exact rfl; (first|exact ⟨ct,trivial⟩|exact ⟨ct,ct,trivial⟩|exact ⟨id,trivial⟩|(repeat (first|exact trivial|(apply And.intro; (first|exact ct|exact id|exact cZ|(simp_all [aF]; done)))))); (first|exact λ_=>trivial|exact λ_=>rfl|(intro h; (try dsimp only); (first|omega|(simp [aF] at h; omega)))))
   | (apply TY; exact rfl; exact ld1; (first|exact ct|exact id|exact cZ|(simp_all [aF]; done)))
   | (apply OL; exact rfl; exact ldS; exact rfl; (first|exact ct|exact id|exact cZ|(simp_all [aF]; done)))
   | (apply TX; exact rfl; (first|exact ⟨ct,trivial⟩|exact ⟨ct,ct,trivial⟩|exact ⟨id,trivial⟩|(repeat (first|exact trivial|(apply And.intro; (first|exact ct|exact id|exact cZ|(simp_all [aF]; done)))))))
   )
  exact hq.q):p:=imp h
theorem rd (h:q) (imp:Wp q->p:=by exact λh=>Hz h):p:=imp ⟨h⟩
theorem gw {f:FuncId} {c:Code} (hf_:P.funcs[f]?=some fn) (hn_:fn.ntmps=N) (h:q) (hb:fn.body=some c:=by rfl) (hle:Nat.ble vs.length N=true:=by rfl)
  (imp:Wp q->CW P none (bodyPost P fn λe w'=> ∃v,e= .returned v/\R v w') N [] c (mJ vs 0) w:=by exact λh=>jB h):Gives P f vs.toArray w R:=gv hf_ hn_ (imp ⟨h⟩) hb hle
theorem cd [Decidable p] {qt:p->Prop} {qf: ¬p->Prop} (hc:ev E c=some (none,.bool (decide p))) (ht: ∀h,qt h) (hf: ∀h,qf h)
  (it: ∀h,Wp (qt h)->CW P r Q N ds a E w:=by exact λ_ h=>jB h) (if_: ∀h,Wp (qf h)->CW P r Q N ds b E w:=by exact λ_ h=>jB h):CW P r Q N ds (.cond c a b) E w :=
 aI hc (λh=>it h ⟨ht h⟩) (λh=>if_ h ⟨hf h⟩)
theorem iG {t:Bool} {qt:t=true->Prop} {qf:t=false->Prop} (hc:ev E c=some (none,.bool t)) (ht: ∀h,qt h) (hf: ∀h,qf h)
  (it: ∀h,Wp (qt h)->CW P r Q N ds a E w:=by exact λ_ h=>jB h) (if_: ∀h,Wp (qf h)->CW P r Q N ds b E w:=by exact λ_ h=>jB h):CW P r Q N ds (.cond c a b) E w :=
 aK hc (λh=>it h ⟨ht h⟩) (λh=>if_ h ⟨hf h⟩)
theorem ce {X:Value} (h:(aC N d,evs E xs)=(true,some vs)) (hc:Gives P k vs.toArray w λu w'=>w'=w/\u=X)
  (next:q) (imp:Wp q->TW P r Q N ds ops rest (ins E d none X) w:=by exact λh=>jB h) (he:enters P k=true:=by kernel_rfl):TW P r Q N ds ops (⟨d,.call ⟨.value (.func k),xs.toArray,ts⟩,ty,pos,af,none⟩::rest) E w :=
 aN h hc (he:=he) λ_ w' ⟨b,e⟩=>by subst b e; exact imp ⟨next⟩
theorem cF (hc:ev E c=some (none,.bool false)) (h:q) (imp:Wp q->CW P r Q N ds b E w:=by exact λh=>jB h):CW P r Q N ds (.cond c a b) E w:=aK hc (λh=>by cases h) λ_=>imp ⟨h⟩
theorem cT (hc:ev E c=some (none,.bool true)) (h:q) (imp:Wp q->CW P r Q N ds a E w:=by exact λh=>jB h):CW P r Q N ds (.cond c a b) E w:=aK hc (λ_=>imp ⟨h⟩) λh=>by cases h
theorem nw {vx:Value} {q: ∀g w',Fresh w w' g t cs->Prop} (h:(aC N d,ev E x,vx.cells)=(true,some (none,vx),cs.toArray)) (next: ∀g w' f,q g w' f)
  (imp: ∀g w' f,Wp (q g w' f)->TW P r Q N ds ops rest (ins E d none (.pointer (some ⟨g,0,none⟩))) w':=by exact λ_ _ _ h=>jB h):TW P r Q N ds ops (⟨d,.box t x,ty,pos,af,none⟩::rest) E w:=by
 simp only [Prod.mk.injEq] at h;exact bS rfl h.1 h.2.1 h.2.2 λg w' f=>imp g w' f ⟨next g w' f⟩
theorem nv {dd:Nat} {zs:List Value} {ty':TypeId} {q: ∀g w',Fresh w w' g t cs->Prop} (hz:zeroCells P t=some zs) (h:(aC N (some dd),ev ((dd,none,.pointer (some ⟨w.heap.size,0,none⟩))::E) y)=(true,some (none,.agg cs.toArray)))
  (next: ∀g w' f,q g w' f) (hs:(P.info? t).map (·.size)=some cs.length:=by exact Sz.q) (hl:zs.length=cs.length:=by rfl) (h1:cs.all (·.oneCell')=true:=by rfl)
  (imp: ∀g w' f,Wp (q g w' f)->TW P r Q N ds ops rest ((dd,none,.pointer (some ⟨g,0,none⟩))::E) w':=by exact λ_ _ _ h=>jB h) :
  TW P r Q N ds ops (⟨some dd,.alloc t,ty,pos,af,none⟩::⟨none,.store t (.tmp dd) y,ty',pos',af',none⟩::rest) E w:=by
 simp only [Prod.mk.injEq] at h;exact fw h.1 hz h.2 hs hl h1 λg w' f=>imp g w' f ⟨next g w' f⟩
theorem WO {dd:Nat} {z v:Value} {ty':TypeId} {q: ∀g w',Fresh w w' g t [v]->Prop} (hz:zeroCells P t=some [z]) (h:(aC N (some dd),ev ((dd,none,.pointer (some ⟨w.heap.size,0,none⟩))::E) y)=(true,some (none,v)))
  (next: ∀g w' f,q g w' f) (hs:(P.info? t).map (·.size)=some 1:=by exact Sz.q) (h1:v.oneCell'=true:=by first|rfl|assumption)
  (imp: ∀g w' f,Wp (q g w' f)->TW P r Q N ds ops rest ((dd,none,.pointer (some ⟨g,0,none⟩))::E) w':=by exact λ_ _ _ h=>jB h) :
  TW P r Q N ds ops (⟨some dd,.alloc t,ty,pos,af,none⟩::⟨none,.store t (.tmp dd) y,ty',pos',af',none⟩::rest) E w:=by
 simp only [Prod.mk.injEq] at h;exact lM h.1 hz h.2 hs h1 λg w' f=>imp g w' f ⟨next g w' f⟩
theorem na {q: ∀g w',Fresh w w' g t cs->Prop} (hz:zeroCells P t=some cs) (next: ∀g w' f,q g w' f) (hd:aC N d=true:=by rfl)
  (imp: ∀g w' f,Wp (q g w' f)->TW P r Q N ds ops rest (ins E d none (.pointer (some ⟨g,0,none⟩))) w':=by exact λ_ _ _ h=>jB h):TW P r Q N ds ops (⟨d,.alloc t,ty,pos,af,none⟩::rest) E w :=
 gq rfl hd hz λg w' f=>imp g w' f ⟨next g w' f⟩
theorem cv {X:Value} {q: ∀w',ZT w w'->Prop} (h:(aC N d,evs E xs)=(true,some vs)) (hc:Gives P k vs.toArray w (ZS w X))
  (next: ∀w' b,q w' b) (imp: ∀w' b,Wp (q w' b)->TW P r Q N ds ops rest (ins E d none X) w':=by exact λ_ _ h=>jB h) (he:enters P k=true:=by kernel_rfl):TW P r Q N ds ops (⟨d,.call ⟨.value (.func k),xs.toArray,ts⟩,ty,pos,af,none⟩::rest) E w :=
 aN h hc (he:=he) λ_ w' ⟨b,e⟩=>by subst e; exact imp w' b ⟨next w' b⟩
theorem sf {t1:TypeId} {g j:Nat} [Sz P t 1] {q: ∀w',Blk w' g t1 (cs.set j u)->But g w w'->w'.heap.size=w.heap.size->Prop} (h:(ev E x,ev E y)=(some (none,.pointer (some (Addr.add ⟨g,0,none⟩ j))),some (none,u))) (hB:Blk w g t1 cs)
  (next: ∀w' a b e,q w' a b e) (hj:j<cs.length:=by first|(simp; done)|(simp; omega)) (h1:u.oneCell'=true:=by first|rfl|assumption) (imp: ∀w' a b e,Wp (q w' a b e)->TW P r Q N ds ops rest E w':=by exact λ_ _ _ _ h=>jB h):TW P r Q N ds ops (⟨none,.store t x y,ty,pos,af,none⟩::rest) E w:=by
 simp only [Prod.mk.injEq] at h;exact mq rfl Sz.q h.1 h.2 hB hj h1 λw' a b e=>imp w' a b e ⟨next w' a b e⟩
theorem Xo {q: ∀u w',ZT w w'->R u w'->Prop} (he:enters P k=true) (h:(aC N d,ev E f,evs E xs)=(true,some (none,.func (.func k) #[] cap.toArray),some vs)) (hc:Gives P k (vs++cap).toArray w λu w'=>ZT w w'/\R u w')
  (next: ∀u w' b e,q u w' b e) (imp: ∀u w' b e,Wp (q u w' b e)->TW P r Q N ds ops rest (ins E d none u) w':=by exact λ_ _ _ _ h=>jB h):TW P r Q N ds ops (⟨d,.call ⟨.value f,xs.toArray,ts⟩,ty,pos,af,none⟩::rest) E w:=by
 simp only [Prod.mk.injEq] at h;exact fE rfl h.1 he h.2.1 (fJ h.2.2) hc λ_ w' ⟨b,e⟩=>imp _ w' b e ⟨next _ w' b e⟩
theorem rc {t1:TypeId} {g:Nat} [Sr P t n] (h:(fn.results,look E s)=(#[.cell s t],some (none,.pointer (some ⟨g,0,none⟩)))) (hB:Blk w g t1 cs) (hR:R (.agg cs.toArray) w) (hn:cs.length=n:=by rfl) :
  KW N [] (bodyPost P fn (λe w'=> ∃v,e= .returned v/\R v w') .ret) E w:=by
 simp only [Prod.mk.injEq] at h;obtain ⟨fs,hu⟩:=Sr.u (P:=P) (t:=t);exact Ca h.1 hu (hn ▸ Sr.s) h.2 hB hR
theorem sb {t1:TypeId} {g:Nat} {old:List Value} [Sz P t n] {q: ∀w',Blk w' g t1 cs->But g w w'->w'.heap.size=w.heap.size->Prop} (h:(ev E x,ev E y)=(some (none,.pointer (some ⟨g,0,none⟩)),some (none,.agg cs.toArray))) (hB:Blk w g t1 old)
  (next: ∀w' a b e,q w' a b e) (hn:cs.length=n:=by rfl) (hl:old.length=n:=by rfl) (h1:cs.all (·.oneCell')=true:=by rfl) (imp: ∀w' a b e,Wp (q w' a b e)->TW P r Q N ds ops rest E w':=by exact λ_ _ _ _ h=>jB h):TW P r Q N ds ops (⟨none,.store t x y,ty,pos,af,none⟩::rest) E w:=by
 simp only [Prod.mk.injEq] at h;exact gI rfl h.1 h.2 hB Sz.q hn hl h1 λw' a b e=>imp w' a b e ⟨next w' a b e⟩
theorem Ue {X:Value} {q: ∀w',ZT w w'->Prop} (he:enters P k=true) (h:(aC N d,ev E f,evs E xs)=(true,some (none,.func (.func k) #[] cap.toArray),some vs)) (hc:Gives P k (vs++cap).toArray w (ZS w X))
  (next: ∀w' b,q w' b) (imp: ∀w' b,Wp (q w' b)->TW P r Q N ds ops rest (ins E d none X) w':=by exact λ_ _ h=>jB h):TW P r Q N ds ops (⟨d,.call ⟨.value f,xs.toArray,ts⟩,ty,pos,af,none⟩::rest) E w:=by
 simp only [Prod.mk.injEq] at h;exact fE rfl h.1 he h.2.1 (fJ h.2.2) hc λ_ w' ⟨b,e⟩=>by subst e; exact imp w' b ⟨next w' b⟩
theorem cr {q: ∀u w',ZT w w'->R u w'->Prop} (h:(aC N d,evs E xs)=(true,some vs)) (hc:Gives P k vs.toArray w λu w'=>ZT w w'/\R u w')
  (next: ∀u w' b e,q u w' b e) (imp: ∀u w' b e,Wp (q u w' b e)->TW P r Q N ds ops rest (ins E d none u) w':=by exact λ_ _ _ _ h=>jB h) (he:enters P k=true:=by kernel_rfl):TW P r Q N ds ops (⟨d,.call ⟨.value (.func k),xs.toArray,ts⟩,ty,pos,af,none⟩::rest) E w :=
 aN h hc (he:=he) λ_ w' ⟨b,e⟩=>imp _ w' b e ⟨next _ w' b e⟩
theorem UR {c:Code} {K:Env} (ks:List Nat) (s n:Nat) (J:Nat->World->Prop) {q: ∀i W,i<=n->ZT w W->J i W->Prop} (h0:J 0 w)
  (round: ∀i W a b e,q i W a b e)
  (hK:PF.pick E ks=some K:=by rfl) (hE:PF.pick E [s]=some [(s,none,ZU ((0:Nat):Int))]:=by rfl)
  (imp: ∀i W a b e,Wp (q i W a b e)->CW P r (Exit.then (λa' w'=> ∃x':Nat,Fit N ds ((λi:Nat=> [(s,none,ZU (i:Int))]) x'++K) a'/\(x'<=n/\ZT w w'/\J x' w')/\n-x'<n-i) Q) N ds c ((s,none,ZU (i:Int))::K) W:=by exact λ_ _ _ _ _ h=>jB h):CW P r Q N ds (.loop c) E w :=
 dA ks (λi:Nat=> [(s,none,ZU (i:Int))]) (λi W=>i<=n/\ZT w W/\J i W) (λi=>n-i) 0 ⟨ZB,ZA,h0⟩ (λi W ⟨a,b,e⟩=>imp i W a b e ⟨round i W a b e⟩) hK hE
theorem ou {K:Env} {w0:World} {i:Nat} {J:Nat->World->Prop} (hJ:J (i+1) w) (hb:ZT w0 w:=by exact bK) (hi:i<n:=by omega)
  (hp:PF.pick E ((s::K.map (·.1)))=some ((s,none,ZU ((i+1:Nat):Int))::K):=by rfl):KW N ds (Exit.then (λa' w'=> ∃x':Nat,Fit N ds ((λi:Nat=> [(s,none,ZU (i:Int))]) x'++K) a'/\(x'<=n/\ZT w0 w'/\J x' w')/\n-x'<n-i) Q .normal) E w :=
 λ_ ha=>⟨i+1,ha.pick hp,⟨hi,hb,hJ⟩,ZJ⟩
def AU:DE->Option Env
 | []=>some []
 | (i,c,.ex v)::D=>match AU D with
  | some E=>some ((i,c,v)::E)
  | none=>none
 | _=>none
theorem zi: ∀ {D:DE} {E:Env},AU D=some E-> ∀i c v,look E i=some (c,v)->bR D i=some (c,.ex v)
 | [],E,h,i,c,v,a=>by simp [AU] at h; subst h; simp [look] at a
 | (j,e,.ex u)::D,E,h,i,c,v,a=>by
  simp only [AU] at h
  split at h
  .rename_i f d;simp only [Option.some.injEq] at h;subst h;simp only [look] at a;simp only [bR]
   cases b:Nat.beq j i with
   | true=>rw [b] at a;  obtain ⟨rfl,rfl⟩:=a; rfl
   | false=>rw [b] at a; exact zi d i c v a
  .cases h
 | (_,_,.pr _)::_,_,h,_,_,_,_=>by simp [AU] at h
 | (_,_,.own _ _)::_,_,h,_,_,_,_=>by simp [AU] at h
theorem Ex {E':Env} (hp:AU D=some E') (h: ∀b,ZT w b->KW N ds K E' b):DW P N ds md ops w (λD=> ∀a b,ZT w b->FitD N ds D a b->K a b) [] D :=
 gJ λa b e d=>h b e a ⟨d.size,d.defers,λi c v f=>d.slots i c (.ex v) (zi hp i c v f)⟩
theorem dr {q: ∀w',ZT w w'->Prop} [Mx P] (next: ∀w' b,q w' b)
  (imp:(∀w' b,Wp (q w' b))->DW P N ds .weak ops w (λD=> ∀a w',ZT w w'->FitD N ds D a w'->Q .normal a w') ops (lift E):=by
   intro hq;refine rd ?_;exact Ex rfl λw' hb=>jB (hq w' hb))
  (hlex:fU ops=true:=by kernel_rfl):CW P r Q N ds (.region id ops.toArray true) E w:=gV Mx.q hlex (imp λw' b=>⟨next w' b⟩)
theorem dx [Mx P] (next:q) (imp:Wp q->DW P N ds .weak ops w (λD=> ∀a w',ZT w w'->FitD N ds D a w'->Q .normal a w') ops (lift E):=by exact λh=>Hz h)
  (hlex:fU ops=true:=by kernel_rfl):CW P r Q N ds (.region id ops.toArray true) E w:=gV Mx.q hlex (imp ⟨next⟩)
theorem dc {cs:List (Option Bool)} {X:Value} (he:enters P k=true)
  (h:(fD ops D gu,aC N d,dev D f,vF D xs)=(some G,true,some (cf,.ex (.func (.func k) #[] cap.toArray)),some (cs,vs)))
  (hc:aF G-> ∀w',ZT w w'->Gives P k (vs++cap).toArray w' λu w''=>ZT w' w''/\u=X) (next:q)
  (jf:aF G->aF cf:=by first|exact ct|exact id|exact cZ|(simp_all [aF]; done)) (hi:uF G cs:=by first|exact ⟨ct,trivial⟩|exact ⟨ct,ct,trivial⟩|(repeat (first|exact trivial|(apply And.intro; (first|exact ct|exact id|exact cZ|(simp_all [aF]; done))))))
  (imp:Wp q->DW P N ds .weak ops w Fin rest (bE D d G (.ex X)):=by exact λh=>Hz h):DW P N ds .weak ops w Fin (⟨d,.call ⟨.value f,xs.toArray,ts⟩,ty,pos,af,gu⟩::rest) D:=by
 simp only [Prod.mk.injEq] at h;exact vY (.ex X) trivial h.1 h.2.1 he h.2.2.1 jf (λhL a w' ha hG=>jm ha hG hL h.2.2.2 hi) hc (imp ⟨next⟩)
theorem dz {q: ∀w',ZT w w'->Prop} {E':Env} (next: ∀w' b,q w' b) (hp:AU D=some E':=by rfl) (imp: ∀w' b,Wp (q w' b)->KW N ds K E' w':=by exact λ_ _ h=>jB h) :
  DW P N ds md ops w (λD=> ∀a w',ZT w w'->FitD N ds D a w'->K a w') [] D:=Ex hp λw' b=>imp w' b ⟨next w' b⟩
theorem dp {cs:List (Option Bool)} (φ:Value->World->Prop) (hm: ∀v w w',ZT w w'->φ v w->φ v w') (he:enters P k=true)
  (h:(fD ops D gu,aC N d,dev D f,vF D xs)=(some G,true,some (cf,.ex (.func (.func k) #[] cap.toArray)),some (cs,vs)))
  (hc:aF G-> ∀w',ZT w w'->Gives P k (vs++cap).toArray w' λu w''=>ZT w' w''/\φ u w'') (next:q)
  (jf:aF G->aF cf:=by first|exact ct|exact id|exact cZ|(simp_all [aF]; done)) (hi:uF G cs:=by first|exact ⟨ct,trivial⟩|exact ⟨ct,ct,trivial⟩|(repeat (first|exact trivial|(apply And.intro; (first|exact ct|exact id|exact cZ|(simp_all [aF]; done))))))
  (imp:Wp q->DW P N ds .weak ops w Fin rest (bE D d G (.pr φ)):=by exact λh=>Hz h):DW P N ds .weak ops w Fin (⟨d,.call ⟨.value f,xs.toArray,ts⟩,ty,pos,af,gu⟩::rest) D:=by
 simp only [Prod.mk.injEq] at h;exact vY (.pr φ) hm h.1 h.2.1 he h.2.2.1 jf (λhL a w' ha hG=>jm ha hG hL h.2.2.2 hi) hc (imp ⟨next⟩)
theorem NB (t:Nat) [Mx P] (next:q) (hlex:fU ops=true:=by kernel_rfl) (hcut:iL ops 0 t=true:=by kernel_rfl) (htl:Nat.ble t ops.length=true:=by rfl)
  (imp:Wp q->DW P N ds .weak ops w (λD=> ∀a w',ZT w w'->FitD N ds D a w'->RK P r Q ops t a w') (bN ops 0 t) (lift E):=by exact λh=>Hz h):CW P r Q N ds (.region id ops.toArray true) E w :=
 dP Mx.q λW hb=>iP .weak t hlex hcut (by cases t<;>rfl) htl hb (imp ⟨next⟩)
theorem Qq {t:Nat} (s:Nat) {o:Oper} {φ:Value->World->Prop} {E':Env} (ks:List Nat) (hs:bR D s=some (none,.pr φ)) (next: ∀v w',ZT w w'->φ v w'->TW P r (Exit.then (RK P r Q ops (t+1)) Q) N ds ops [o] ((s,none,v)::E') w')
  (hp:lH D ks=some E':=by rfl) (ho:ops[t]?=some o:=by rfl) (hlex:fU ops=true:=by kernel_rfl) (hcut:iL ops t (t+1)=true:=by kernel_rfl) :
  DW P N ds md ops w (λD=> ∀a w',ZT w w'->FitD N ds D a w'->RK P r Q ops t a w') [] D :=
 gJ (QV s hs ks E' hp λv w' hb hφ=>gy (eu hlex hcut ho (next v w' hb hφ)))
end
end
section
open Go.ChangeMaps
variable {P:Program} {κ:Type} {kt:TypeId}
def WalkM (K:GKey P kt κ) (w:World) (r bm:Nat) (m:List (κ×Value)) (pre:List κ) (last:Option (κ×Value)):Prop :=
 ∃ es clock since seen c0,w.heap[bm]?=some (.map es clock)/\es.toList.map (λe=>(e.key,e.val))=m.map (λp=>(K.enc p.1,p.2))/\(es.toList.map (·.born)).Nodup/\w.heap[r]?=some (.mapIter (some bm) since seen c0) /\
  (∀e∈es.toList,e.born<since)/\since<=c0/\(∀e∈es.toList,∀k,e.key=K.enc k->(seen.contains e.born=true↔k∈pre)) /\
  since<=clock/\m.Pairwise (λp q=>p.1≠q.1)/\ ∀k v,last=some (k,v)->c0=clock/\ ∃(e:MapEntry) (seen0:Array Nat),e∈es.toList/\e.key=K.enc k/\e.val=v/\seen=seen0.push e.born
theorem WalkM.kept {K:GKey P kt κ} {r:Nat} {m:List (κ×Value)} {pre:List κ} {last:Option (κ×Value)} (h:WalkM K w r bm m pre last) (l:w'.heap[r]?=w.heap[r]?) (hb:w'.heap[bm]?=w.heap[bm]?):WalkM K w' r bm m pre last:=by
 obtain ⟨d,a,b,c,e,f,g,i,j,k⟩:=h;exact ⟨d,a,b,c,e,hb.trans f,g,i,l.trans j,k⟩
theorem WalkM.iter {K:GKey P kt κ} {r:Nat} {m:List (κ×Value)} {pre:List κ} {last:Option (κ×Value)} (h:WalkM K w r bm m pre last): ∃o,w.heap[r]?=some o/\ctl o=true:=by
 obtain ⟨e,a,b,c,f,g,i,j,d,k⟩:=h;exact ⟨_,d,rfl⟩
theorem WalkM.ne {K:GKey P kt κ} {r:Nat} {m:List (κ×Value)} {pre:List κ} {last:Option (κ×Value)} (h:WalkM K w r bm m pre last):r≠bm:=by
 obtain ⟨g,a,b,c,i,f,j,k,d,l⟩:=h;intro e;rw [e,f] at d;cases d
theorem Aq {K:GKey P kt κ} {es:List MapEntry} {m:List (κ×Value)} (h:es.map (λe=>(e.key,e.val))=m.map (λp=>(K.enc p.1,p.2))) {e:MapEntry} (he:e∈es): ∃k v,(k,v)∈m/\e.key=K.enc k/\e.val=v:=by
 have:(e.key,e.val)∈m.map (λp=>(K.enc p.1,p.2)):=by rw [<-h]; exact List.mem_map.2 ⟨e,he,rfl⟩
 rw [List.mem_map] at this;obtain ⟨p,b,a⟩:=this;simp only [Prod.mk.injEq] at a;exact ⟨p.1,p.2,b,a.1.symm,a.2.symm⟩
theorem A9 {K:GKey P kt κ} {es:List MapEntry} {m:List (κ×Value)} (h:es.map (λe=>(e.key,e.val))=m.map (λp=>(K.enc p.1,p.2))) {k:κ} (hp:(k,v)∈m): ∃e∈es,e.key=K.enc k/\e.val=v:=by
 have:(K.enc k,v)∈es.map (λe=>(e.key,e.val)):=by rw [h]; exact List.mem_map.2 ⟨(k,v),hp,rfl⟩
 rw [List.mem_map] at this;obtain ⟨e,b,a⟩:=this;simp only [Prod.mk.injEq] at a;exact ⟨e,b,a.1,a.2⟩
section
variable {r:Option Nat} {Q:Exit->Act->World->Prop} {N:Nat} {ds:List Deferred} {ops rest:List Oper} {E:Env} {w:World}
variable {d:Option Tmp} {ty:TypeId} {pos:String} {af:Array Edge} {gu:Option (Nat×Bool)} {x:Operand}
theorem mY (K:GKey P kt κ) {m:List (κ×Value)} (u:gu=none) (y:aC N d=true) (z:P.underlying t=some (.map kt et)) (A:ev E x=some (none,.map (some bm))) (hm:MapL K w bm m)
  (next: ∀f g,f=w.heap.size->g.heap.size=f+1->ZT w g->WalkM K g f bm m [] none->TW P r Q N ds ops rest (ins E d none (.pointer (some ⟨f,0,none⟩))) g):TW P r Q N ds ops (⟨d,.range t x,ty,pos,af,gu⟩::rest) E w:=by
 obtain ⟨⟨p,b,i,q,j,l⟩,n⟩:=hm;have c:(getObj bm).run P w= .ok (.map p b) w:=by simp [getObj,Sem.run,i]
 refine ek (w':=w.alloc (.mapIter (some bm) b #[] b)) u y rfl (λa s=> ?_) (next _ _ rfl ZM ((ZA).alloc ZC _) ?_)
 .simp only [execOp];rw [s.eval A trivial];simp [Instr.range,run_underlying z,c,Sem.run]
 .have o:=(Array.getElem?_eq_some_iff.1 i).1;refine ⟨p,b,b,#[],b,?_,q,j,heap_alloc_new w _,l,ZC,(λe _ k _=>ZM),ZC,n,λk v h=>by cases h⟩;have:=(ii w (.mapIter (some bm) b #[] b)).block bm o;exact this.trans i
theorem pE (K:GKey P kt κ) {m:List (κ×Value)} {pre:List κ} {last:Option (κ×Value)} (hg:gu=none) (hd:aC N d=true) (hx:ev E x=some (none,.pointer (some ⟨it,0,none⟩))) (hw:WalkM K w it bm m pre last)
  (n1:(∀p∈m,p.1∈pre)->TW P r Q N ds ops rest (ins E d none (.tuple #[.bool false])) w)
  (n2: ∀k v W,(k,v)∈m->k ∉ pre->W.heap.size=w.heap.size->But it w W->ExtF it w W->WalkM K W it bm m (pre++ [k]) (some (k,v))->TW P r Q N ds ops rest (ins E d none (.tuple #[.bool true,K.enc k,v])) W):TW P r Q N ds ops (⟨d,.next x false,ty,pos,af,gu⟩::rest) E w:=by
 have a0:=hw.ne;obtain ⟨A,f,g,c,c0,h1,I,h3,h4,h5,h6,h7,J,L,h8⟩:=hw;rcases run_next_at (P:=P) w ty it bm g c0 c A f h4 h1 h5 h6 with ⟨h0,y⟩|⟨e,B,H,M,y⟩
 .refine ek hg hd rfl (λa ha=> ?_) (n1 λp hp=> ?_)
  .simp only [execOp];rw [ha.eval hx trivial];simp [y]
  .obtain ⟨e,B,C,_⟩:=A9 I hp;refine (h7 e B p.1 C).1 ?_
   cases hs:c.contains e.born with
   | true=>rfl
   | false =>
    have hm:e∈(leftOf A c).toList:=by unfold leftOf; simp only [Array.toList_filter,List.mem_filter]; exact ⟨B,by rw [hs]; rfl⟩
    have:(leftOf A c).toList= []:=by rw [Array.toList_eq_nil_iff]; exact Array.eq_empty_of_size_eq_zero h0
    rw [this] at hm; cases hm
 .have n:e∈A.toList/\c.contains e.born=false:=by
   unfold leftOf at B;simp only [Array.toList_filter,List.mem_filter] at B;exact ⟨B.1,by simpa using B.2⟩
  obtain ⟨k,v,a1,C,hv⟩:=Aq I n.1;have a2:k ∉ pre:=λh=>by
   have:=(h7 e n.1 k C).2 h;rw [n.2] at this; cases this
  have a3:=(Array.getElem?_eq_some_iff.1 h4).1;have b:H.heap=w.heap:=by rcases M with rfl|rfl<;>rfl
  have s:H.os=w.os/\H.tape=w.tape/\H.output=w.output:=by rcases M with rfl|rfl<;>exact ⟨rfl,rfl,rfl⟩
  have O:ExtF it w (setBlock H it (.mapIter (some bm) g (c.push e.born) f)):=by
   refine ⟨s.1,s.2.1,s.2.2,by simp [setBlock,b],λq o ho hc=> ?_⟩;by_cases hq:it=q
   .subst hq;rw [h4] at ho;cases ho;rcases hc with h|h
    .omega
    .cases h
   .simp [setBlock,b,Array.getElem?_setIfInBounds_ne hq]; exact ho
  refine ek (w':=setBlock H it (.mapIter (some bm) g (c.push e.born) f)) hg hd rfl (λa ha=> ?_) (n2 k v _ a1 a2 (by simp [setBlock,b]) ⟨s.1,s.2.1,s.2.2,by simp [setBlock,b],λq hq D=> ?_⟩ O ?_)
  .simp only [execOp];rw [ha.eval hx trivial];simp [y,C,hv]
  .have:it≠q:=λe=>D (by rw [e]);simp [setBlock,b,Array.getElem?_setIfInBounds_ne this]
  .refine ⟨A,f,g,c.push e.born,f,?_,I,h3,by simp [setBlock,b,a3],h5,J,λe' F Y z=> ?_,J,L,λY v' R=> ?_⟩
   .simp [setBlock,b,Array.getElem?_setIfInBounds_ne a0]; exact h1
   .rw [List.mem_append,List.mem_singleton,<-h7 e' F Y z];simp only [Array.contains_iff_mem,Array.mem_push];constructor
    .rintro (h|h)
     .exact .inl h
     .right;have S:e'=e:=by
       obtain ⟨i,G,t⟩:=List.getElem_of_mem F;obtain ⟨j,Z,u⟩:=List.getElem_of_mem n.1;have:i=j:=by
        have D:=List.pairwise_iff_getElem.1 h3;rcases Nat.lt_trichotomy i j with q|q|q
        .have:=D i j (by simpa using G) (by simpa using Z) q;simp only [List.getElem_map,t,u] at this;exact absurd h this
        .exact q
        .have:=D j i (by simpa using Z) (by simpa using G) q;simp only [List.getElem_map,t,u] at this;exact absurd h.symm this
       subst this;rw [<-t,<-u]
      rw [S,C] at z;exact (K.inj _ _ z).symm
    .rintro (h|rfl)
     .exact .inl h
     .right;have a5:A.toList.length=m.length:=by have:=congrArg List.length I; simpa using this
      obtain ⟨i,G,t⟩:=List.getElem_of_mem F;obtain ⟨j,Z,u⟩:=List.getElem_of_mem n.1;have U: ∀(i:Nat) (G:i<A.toList.length),A.toList[i].key=K.enc (m[i]'(by omega)).1:=λi G=>by
       have:=congrArg (λl=>l[i]?) I;simp only [List.getElem?_map,ZD G,ZD (show i<m.length by omega),Option.map_some,Option.some.injEq,Prod.mk.injEq] at this;exact this.1
      have e1:(m[i]'(by omega)).1=Y:=K.inj _ _ (by rw [<-U i G,t,z]);have e2:(m[j]'(by omega)).1=Y:=K.inj _ _ (by rw [<-U j Z,u,C]);have D:=List.pairwise_iff_getElem.1 L;have a4:i=j:=by
       rcases Nat.lt_trichotomy i j with q|q|q
       .exact absurd (e1.trans e2.symm) (D i j ZJ ZJ q)
       .exact q
       .exact absurd (e2.trans e1.symm) (D j i ZJ ZJ q)
      subst a4;rw [<-t,<-u]
   .cases R;exact ⟨rfl,e,c,n.1,C,hv,rfl⟩
theorem mZ (K:GKey P kt κ) {m:List (κ×Value)} {pre:List κ} {k:κ} (z:gu=none) (A:aC N d=true) (B:ev E x=some (none,.pointer (some ⟨it,0,none⟩))) (C:WalkM K w it bm m pre (some (k,v)))
  (next:TW P r Q N ds ops rest (ins E d none (.tuple #[K.enc k,v])) w):TW P r Q N ds ops (⟨d,.entry x,ty,pos,af,gu⟩::rest) E w:=by
 obtain ⟨h,f,b,g,i,j,D,l,n,F,G,H,o,p,q⟩:=C;obtain ⟨rfl,e,c,s,t,u,rfl⟩:=q k v rfl;refine ek z A rfl (λa y=> ?_) next
 simp only [execOp];rw [y.eval B trivial];have:=run_entry_at (P:=P) w it bm b c h i e n j s l;simp [this,t,u]
theorem MapL.keys {K:GKey P kt κ} {b:Nat} {m:List (κ×Value)} (h:MapL K w b m):(m.map (·.1)).Nodup:=by
 unfold List.Nodup;rw [List.pairwise_map];exact h.once
end
def zS {α:Type} (P:Program) (gf:FuncId) (cap:List Value) (enc:α->List Value) (Pos:List α->α->(Nat->Prop)->World->Prop) (Done:List α->Prop) (own:Nat->Prop) (w0:World):Prop :=
 ∀ (l:Nat) (J Jx:List α->(Nat->Prop)->World->Prop) (W:World) (M:Nat->Prop),
  (∀k,own k->k<w0.heap.size->W.heap[k]?=w0.heap[k]?)->w0.heap.size<=W.heap.size->l<W.heap.size->(∀k,own k-> ¬M k/\k≠l)->(∀k,M k->k<W.heap.size) ->
  (∀pre M W1 W2,J pre M W1->ExtF W.heap.size W1 W2->J pre M W2)->(∀pre M W1 W2,Jx pre M W1->ExtF W.heap.size W1 W2->Jx pre M W2) ->
  (∀pre x M W1,J pre M W1->Pos pre x M W1->(∀k,M k->k<W1.heap.size)->l<W1.heap.size->Yields P l (enc x).toArray W1 (Rnd l J Jx (pre++ [x]) M W1)) ->
  J [] M W ->
  Gives P gf (.func (.yield l) #[] #[]::cap).toArray W λ_ W'=>(∃xs M',Done xs/\J xs M' W')\/(∃pre M',Jx pre M' W')
section
variable {r:Option Nat} {Q:Exit->Act->World->Prop} {N:Nat} {ds:List Deferred} {ops rest:List Oper} {E:Env} {w:World} {G:Option Bool}
theorem qi {g:Operand} {ps:List Tmp} {assign body:Code} {gf:FuncId} {enc:α->List Value} {Pos:List α->α->(Nat->Prop)->World->Prop} {Done:List α->Prop} {own:Nat->Prop}
  (hg:ev E g=some (none,.func (.func gf) #[] cap.toArray)) (he:enters P gf=true) (aa:zS P gf cap enc Pos Done own w) (ab:ps.all (λt=>Nat.blt t N)=true) (Z: ∀x,(enc x).length=ps.length)
  (J:List α->(Nat->Prop)->World->Prop) (K:Code->List α->(Nat->Prop)->World->Prop) (M:Nat->Prop) (hM: ∀k,M k->k<w.heap.size/\ ¬own k) (a0: ∀k,own k->k<w.heap.size)
  (hJ: ∀d M f n,J d M f->ExtF w.heap.size f n->J d M n) (a2: ∀c d M f n,K c d M f->ExtF w.heap.size f n->K c d M n) (h0:J [] M w)
  (H: ∀D L d x M W,w.heap.size<=D->D<L->J d M W->Pos d x M W->(∀k,M k->k<W.heap.size)-> ¬M L-> ¬M D->RecIs N E ps assign body D W L .ready none ->
   CW P (some L) (Exit.then (λa1 f=> ∃n,(Instr.beginRound L).run P f= .ok () n /\
    body.wpIn (FR (some L)) 0 P (nH P L (Rnd L (λd i l=>J d i l/\ ¬i L/\ ¬i D/\RecIs N E ps assign body D l L .ready none) (λd i l=> ∃c,K c d i l/\RecIs N E ps assign body D l L .done (some c)) (d++ [x]) M W)) a1 n) (λ_ _ _=>False)) N [] assign (FU E ps (enc x)) W)
  (a3: ∀D xs M W,w.heap.size<=D->Done xs->J xs M W-> ¬M D->W.heap[D]?=some (.deferred (some []))->KW N ({target:= .collected D,args:= #[]}::ds) (Q .normal) E W)
  (a4: ∀D c d M W,w.heap.size<=D->K c d M W->W.heap[D]?=some (.deferred (some []))->CW P none Q N ({target:= .collected D,args:= #[]}::ds) c E W) :
  CW P none Q N ds (.rangeFunc g ps.toArray assign body) E w:=by
 intro a p;refine wpIn_rangeFunc λfn _=> ?_;obtain ⟨f,m⟩: ∃f,(w.alloc (.deferred (some []))).alloc (.loop {state:= .ready,pending:=none,fn:=fn,tmps:=a.tmps,params:=ps.toArray,assign:=assign,body:=body,defers:=w.heap.size})=f:=⟨_,rfl⟩;have ac:f.heap.size=w.heap.size+2:=by rw [<-m]; simp
 have a5:f.heap[w.heap.size+1]?=some (.loop {state:= .ready,pending:=none,fn:=fn,tmps:=a.tmps,params:=ps.toArray,assign:=assign,body:=body,defers:=w.heap.size}):=by
  rw [<-m]; have:=World.alloc_heap_new (w.alloc (.deferred (some []))) (.loop {state:= .ready,pending:=none,fn:=fn,tmps:=a.tmps,params:=ps.toArray,assign:=assign,body:=body,defers:=w.heap.size}); rwa [World.size_alloc] at this
 have a6:f.heap[w.heap.size]?=some (.deferred (some [])):=by
  rw [<-m]; exact (Below.heap_alloc _ _ _ ZM).trans (World.alloc_heap_new w _)
 have O:ZT w f:=by
  rw [<-m]; exact ((Below.refl _ w).alloc ZC _).alloc ZM _
 have S:RecIs N E ps assign body w.heap.size f (w.heap.size+1) .ready none:=⟨fn,a.tmps,⟨p.size,rfl,p.slots⟩,a5⟩
 let J':List α->(Nat->Prop)->World->Prop:=λd M W=>(J d M W/\ ¬M (w.heap.size+1)/\ ¬M w.heap.size/\RecIs N E ps assign body w.heap.size W (w.heap.size+1) .ready none)/\W.heap[w.heap.size]?=some (.deferred (some []))
 let a7:List α->(Nat->Prop)->World->Prop:=λd M W=>(∃c,K c d M W/\RecIs N E ps assign body w.heap.size W (w.heap.size+1) .done (some c))/\W.heap[w.heap.size]?=some (.deferred (some []))
 have y:=λk z=>(hM k z).1;have q:=aa (w.heap.size+1) J' a7 f M (λk z r=>O.block k r) ZJ ZJ
  (λk z=>⟨λA=>(hM k A).2 z,by have:=a0 k z; omega⟩) (λk z=>by have:=y k z; omega)
  (λd M Wa Wb ⟨⟨s,I,B,h4⟩,o⟩ C=>⟨⟨hJ _ _ _ _ s (C.less ZJ),I,B,h4.ext C ZJ⟩,C.block _ _ o (.inl ZJ)⟩)
  (λd M Wa Wb ⟨⟨c,s,I⟩,o⟩ C=>⟨⟨c,a2 _ _ _ _ _ s (C.less ZJ),I.ext C ZJ⟩,C.block _ _ o (.inl ZJ)⟩)
  (λd x M2 Wa ⟨⟨s,I,B,h4⟩,o⟩ U Y r=>by
   have hy:=oq h4 (Z x) ab
    (H w.heap.size (w.heap.size+1) d x M2 Wa ZC ZJ s U Y I B h4)
   refine hy.mono λb l u=>⟨u.size,u.kept,λhb=> ?_,λhb=> ?_⟩
   .obtain ⟨i,hj,A⟩:=u.yes hb;exact ⟨i,⟨hj,(u.kept _ ZJ B ZJ).trans o⟩,A⟩
   .obtain ⟨i,hj⟩:=u.no hb;exact ⟨i,hj,(u.kept _ ZJ B ZJ).trans o⟩)
  ⟨⟨hJ _ _ _ _ h0 (.of_below O),λA=>by have:=y _ A; omega,λA=>by have:=y _ A; omega,S⟩,a6⟩
 refine ⟨w.heap.size+1,[{target:= .collected w.heap.size,args:= #[]}],f,{target:= .fn (.func gf) cap.toArray,args:= #[.func (.yield (w.heap.size+1)) #[] #[]]},f,gf,
  (.func (.yield (w.heap.size+1)) #[] #[]::cap).toArray,f,?_,?_,λ_ _=>trivial,?_,λh=>by simp [Fence.wide] at h,?_⟩
 .rw [<-m]; exact run_enterLoop_outer _ _ _ _ _
 .simp only [resolve,p.eval hg trivial];simp [Deferred.ofValue,Act.eval]
 .simp [invoke,jF he]
 .refine CallsIn.mono (jQ q) ?_;rintro e n ⟨v,rfl,u⟩;rcases u with ⟨xs,i,F,⟨s,I,B,a8,G,a9,j⟩,o⟩|⟨d,i,⟨c,s,a8,G,a9,j⟩,o⟩
  .refine ⟨_,_,run_endLoop j ZM,?_⟩;refine a3 w.heap.size xs i _ ZC F (hJ _ _ _ _ s (ExtF.putObj j rfl ZJ)) B ((World.putObj_heap_other ZJ).trans o) _ ⟨p.size,by simp [p.defers],p.slots⟩
  .refine ⟨_,_,run_endLoop j ZM,?_⟩;exact a4 w.heap.size c d i _ ZC (a2 _ _ _ _ _ s (ExtF.putObj j rfl ZJ)) ((World.putObj_heap_other ZJ).trans o) _ ⟨p.size,by simp [p.defers],p.slots⟩
end
end
section
theorem GB.refl (w:World):w.grownBy w o:=⟨rfl,rfl,rfl,ZC,λ_ _ _=>rfl⟩
theorem GB.trans {o:Option Nat} {a b c:World} (h:a.grownBy b o) (k:b.grownBy c o):a.grownBy c o :=
 ⟨k.os.trans h.os,k.tape.trans h.tape,k.output.trans h.output,Nat.le_trans h.size k.size,λi d e=>(k.block i (Nat.lt_of_lt_of_le d h.size) e).trans (h.block i d e)⟩
theorem GB.of_below (h:ZT w w'):w.grownBy w' o:=⟨h.os,h.tape,h.output,h.size,λk a _=>h.block k a⟩
theorem GB.cell {o:Option Nat} {w w':World} {ad:Addr} {v:Value} (h:w.grownBy w' o) (b:w.cell? ad=some v) (a:o≠some ad.block):w'.cell? ad=some v :=
 (World.cell?_of_block (h.block _ (block_lt_of_cell b) (λe=>a e.symm))).trans b
theorem GB.blk {k:Nat} (h:w.grownBy w' o) (b:Blk w k t cs) (a:o≠some k):Blk w' k t cs:=(h.block k b.lt (λe=>a e.symm)).trans b
theorem Cy {κ:Type} {M:List (κ×Value)} (h:M.Pairwise λp q=>p.1≠q.1) {r:κ} {v':Value} (h1:(r,v)∈M) (f:(r,v')∈M):v=v':=by
 obtain ⟨i,c,b⟩:=List.getElem_of_mem h1;obtain ⟨j,d,a⟩:=List.getElem_of_mem f;have e:=List.pairwise_iff_getElem.1 h;rcases Nat.lt_trichotomy i j with q|q|q
 .have:=e i j c d q;rw [b,a] at this;exact absurd rfl this
 .subst q;rw [b] at a;simp only [Prod.mk.injEq] at a;exact a.2
 .have:=e j i d c q;rw [b,a] at this;exact absurd rfl this
def kY (d:Nat) (p:Oper):Bool:=match p.dst with
 | some x=>Nat.beq x d
 | none=>false
def E6 (w0:World) (o:Option Nat) (d:Nat):Disc w0 where
 rel:=λw=>w0.grownBy w o
 tok:=kY d
 lock:=λw=> ∀k,o=some k->k<w0.heap.size->w.heap[k]?=w0.heap[k]?
 still:=λw w'=>ZT w w'
 lock_still:=λw w' hs hl k hk hlt=>by
  have h:=hl k hk hlt
  have hk':k<w.heap.size:=by
   rw [Array.getElem?_eq_getElem hlt] at h
   exact (Array.getElem?_eq_some_iff.1 h).1
  exact (hs.block k hk').trans h
 still_refl:=λw=>Below.refl _ w
 fs:= []
 fin:=λ_ _=>True
 fin_still:=λ_ _ _ _ _ _ h=>h
 good:=λb e=> ∀v w w',w0.grownBy w o->w.grownBy w' o->(b=true->ZT w w')->e.sat v w->e.sat v w'
 foot:=λ_ _ _ _=>False
 step:=λw w' _=>w.grownBy w' o
 foot_ex:=λ_ _ _ _ h=>h
 step_refl:=λw _=>GB.refl w
 rel_step:=λw w' _ hr h=>hr.trans h
 keep:=λ_ e hg v w w' _ hr hs hb _ h=>hg v w w' hr hs hb h
 back:=λ_ _ _ _ _ _ _ _ _ _ _ _ _ h=>h.elim
 bound:=λ_ _ _ _ _ _ _ h=>h.elim
 inv:=λ_=>True
 inv_step:=λ_ _ _ _ _=>trivial
section
variable {P:Program} {r:Option Nat} {Q:Exit->Act->World->Prop} {N:Nat} {ds:List Deferred} {ops rest:List Oper} {D:DE} {w:World} {o:Option Nat} {tk:Nat} {G:Option Bool} {Fin:DE->Prop}
def DR (P:Program) (N:Nat) (ds:List Deferred) (ops:List Oper) (w0:World) (o:Option Nat) (tk:Nat) (Fin:DE->Prop):List Oper->DE->Prop
 | [],D=>Fin D
 | p::rest,D=> ∃G e,tQ P N ds ops (E6 w0 o tk) p D G e []/\DR P N ds ops w0 o tk Fin rest (bE D p.dst G e)
theorem xZ: ∀ {a:List Oper} {D:DE},DR P N ds ops w o tk Fin a D ->
  ∃ b:List Lay,b.length=a.length/\Fin (fT D a b) /\
   ∀ i p G e s,a[i]?=some p->b[i]?=some (G,e,s)->tQ P N ds ops (E6 w o tk) p (fT D (a.take i) (b.take i)) G e s
 | [],D,h=>⟨[],rfl,h,λi p G e s f _=>by simp at f⟩
 | p::a,D,h=>by
  obtain ⟨G,e,f,g⟩:=h;rw [<-fq D] at g;obtain ⟨b,j,k,l⟩:=xZ g;refine ⟨(G,e,[])::b,by simp [j],k,?_⟩;intro i m n q r c d
  cases i with
  | zero =>
   simp at c d;obtain ⟨rfl,rfl,rfl⟩:=d;subst c
   simpa [fT] using f
  | succ i =>
   simpa [fT] using l i m n q r c d
theorem yK {p:Oper} {d:Nat} (h:kY d p=true):p.dst=some d:=by
 unfold kY at h
 split at h
 .rename_i x a;rw [a,Nat.eq_of_beq_eq_true h]
 .cases h
theorem jT {W:World} (o:Option Nat) (tk t:Nat) (m:fU ops=true) (K:iL ops s t=true) (v:Nat.ble s t=true) (y:Nat.ble t ops.length=true) (hb:ZT w W)
  (h:DR P N ds ops w o tk (λD=> ∀a I,w.grownBy I o->FitD N ds D a I->RK P r Q ops t a I) (bN ops s t) (lift E)):RW P r Q N ds ops s E W:=by
 have v:=Nat.le_of_ble_eq_true v;have y:=Nat.le_of_ble_eq_true y;intro a L b l z g A;obtain ⟨C,hl,hF,B⟩:=xZ h;have F:C.length=t-s:=by rw [hl]; unfold bN; simp; omega
 refine lG (N:=N) (ds:=ds) (a0:=a) (D0:=lift E) (E6 w o tk) m K v y F ?_ (λi j p p' _ _ M O H R=> ?_) (λ_ _ _ _ _ _ _ x S=>by cases S) ?_ ?_ l b a W z ?_ ?_
 .intro i p G e E M hg;have U:i<t-s:=by rw [<-F]; exact (ZE hg).1
  exact B i p G e E (by rw [fH,if_pos U]; exact M) hg
 .have H:=yK H;have R:=yK R;rcases ((dH m M O).2 _ R).1 with h|h
  .omega
  .exact absurd H h
 .intro i c e u;rw [jM] at u
  cases f:look E i with
  | none=>rw [f] at u; cases u
  | some p =>
   rw [f] at u;obtain ⟨rfl,rfl⟩:=u;exact ⟨_,rfl,L.slots i p.1 p.2 f⟩
 .intro l b a I z g A Y _ _ _ J;exact hF a I Y J b l z g A
 .refine Nat.le_trans ?_ A;have:(List.range ops.length).filter (λk=> !b.getD k false)=(List.range ops.length).filter (λk=>decide (s<=k)):=by
   refine List.filter_congr λk n=> ?_;rw [g k (by simpa using n)];by_cases H:k<s<;>simp [H]<;>omega
  rw [this,show ops.length=s+(ops.length-s) by omega,List.range_add,List.filter_append];simp;rw [List.filter_eq_nil_iff.2 (by intro x S; simp at S; simp; omega)];refine Nat.le_trans (Nat.add_le_add_left (List.length_filter_le _ _) _) ?_;simp
 .have q: ∀k,s<=k->b.getD k false=false:=by
   intro k n;rcases ZI k ops.length with h|h
   .rw [g k h]; simp; omega
   .simp [Array.getElem?_eq_none (show b.size<=k by omega)]
  refine ⟨GB.of_below hb,λk p _ _ _ _ j _ O=>hb.block j O,trivial,λ_ _ _ _ _ _ _ _ _ _=>trivial,L.size,L.defers,λk n=>by rw [g k ZJ]; simp [n],λk n=>q k ZJ,?_,?_,λ_ _ _ _ _ _ _=>rfl,λ_ _=>rfl,?_⟩
  .intro k o d G e E n _ _ f;rw [q _ ZJ] at f; cases f
  .intro k o d G e E k' o' d' G' e' E' n _ _ f;rw [q _ ZJ] at f; cases f
  .intro k o n f e u Z;have a1:k<s:=by
    rcases ZI k s with h|h
    .exact h
    .rw [q k h] at f; cases f
   have a2:=(dH m n n).1 e u Z;rw [g e.on ZJ];simp; omega
theorem uE (h:Fin D):DR P N ds ops w o tk Fin [] D:=h
theorem og {p:Oper} (i:fD ops D p.guard=some G) (j:aC N p.dst=true) (hn:dX p.op=true)
  (c:aF G-> ∀a b,w.grownBy b o->FitL N ds (p.looksAt ops.toArray) D a b->(execOp a.eval p).run P b= .ok (.value v) b) (next:DR P N ds ops w o tk Fin rest (bE D p.dst G (.ex v))):DR P N ds ops w o tk Fin (p::rest) D :=
 ⟨G,.ex v,⟨i,j,hn,λ_ _ _ _ _ _ h=>h,rfl,λs d=>by simp at d,λe a b f _ g=> .inl ⟨v,b,.inl (c e a b f g),GB.refl _,⟨λ_=>ZA,λ_=>trivial⟩,rfl,λ_ h=>h.elim⟩⟩,next⟩
variable {d:Option Tmp} {ty:TypeId} {pos:String} {af:Array Edge} {gu:Option (Nat×Bool)} {x y z:Operand} {cx cy cz:Option Bool}
theorem fO {vx:Value} (c:fD ops D gu=some G) (e:aC N d=true) (f:dev D x=some (cx,.ex vx)) (g:aF G->aF cx)
  (next:DR P N ds ops w o tk Fin rest (bE D d G (.ex vx))):DR P N ds ops w o tk Fin (⟨d,.move x,ty,pos,af,gu⟩::rest) D :=
 og c e rfl (λa _ _ _ b=>nT (b.eval f ZQ (g a))) next
theorem iZ {ad:Addr} (c:fD ops D gu=some G) (e:aC N d=true) (f:dev D x=some (cx,.ex (.pointer (some ad)))) (g:aF G->aF cx)
  (next:DR P N ds ops w o tk Fin rest (bE D d G (.ex (.pointer (some ad))))):DR P N ds ops w o tk Fin (⟨d,.nilCheck x,ty,pos,af,gu⟩::rest) D :=
 og c e rfl (λa _ _ _ b=>GI (b.eval f ZQ (g a))) next
theorem bP {ad:Addr} {off fi:Nat} {t:TypeId} (c:fD ops D gu=some G) (e:aC N d=true) (f:lF P t fi=some off) (g:dev D x=some (cx,.ex (.pointer (some ad)))) (h:aF G->aF cx)
  (next:DR P N ds ops w o tk Fin rest (bE D d G (.ex (.pointer (some (ad.add off)))))):DR P N ds ops w o tk Fin (⟨d,.fieldAddr t x fi,ty,pos,af,gu⟩::rest) D :=
 og c e rfl (λa _ _ _ b=>uX f (b.eval g ZQ (h a))) next
theorem gU {t:TypeId} {ad:Addr} {v:Value} (f:fD ops D gu=some G) (g:aC N d=true) (h1:one P t=true) (h:dev D x=some (cx,.ex (.pointer (some ad)))) (i:aF G->aF cx) (b:aF G->w.cell? ad=some v/\o≠some ad.block)
  (next:DR P N ds ops w o tk Fin rest (bE D d G (.ex v))):DR P N ds ops w o tk Fin (⟨d,.load t x,ty,pos,af,gu⟩::rest) D :=
 og f g rfl (λa _ _ c e=>Bh h1 (e.eval h ZQ (i a)) (GB.cell c (b a).1 (b a).2)) next
theorem xY {κ:Type} {kt:TypeId} (K:GKey P kt κ) {zv:Value} {b:Nat} {m:List (κ×Value)} (k:κ) (q:fD ops D gu=some none) (r:aC N d=true) (s:P.underlying t=some (.map kt et)) (z:(P.info? et).bind (·.zero)=some zv)
  (A:dev D x=some (none,.ex (.map (some b)))) (B:dev D y=some (none,.ex (K.enc k))) (hm:MapL K w b m) (i:o≠some b) (l:(k,v)∈m\/((∀p∈m,p.1≠k)/\v=zv))
  (next:DR P N ds ops w o tk Fin rest (bE D d none (.ex v))):DR P N ds ops w o tk Fin (⟨d,.lookup t x y false,ty,pos,af,gu⟩::rest) D:=by
 refine og q r rfl (λ_ a C n j=> ?_) next
 obtain ⟨u,f,c⟩:=uM K s z (hm.kept (n.block b hm.lt (λe=>i e.symm))) k false;simp only [execOp];rw [j.eval A ZQ trivial,j.eval B ZQ trivial];have g:u.getD zv=v:=by
  cases u with
  | none =>
   rcases l with h|⟨_,h⟩
   .exact absurd rfl (f _ h)
   .exact h.symm
  | some E =>
   rcases l with h|⟨h,_⟩
   .exact Cy hm.once f h
   .exact absurd rfl (h _ f)
 simp [c,g]
def OG (w0:World) (e:TypeId) (len:Nat) (cs:List Value) (v:Value) (w:World):Prop:= ∃g,v= .slice (some ⟨g,0,none⟩) len len/\Blk w g e cs/\w0.heap.size<=g
theorem qH {t:TypeId} (e:TypeId) {sz len:Nat} {parts:Array (Nat×Operand)} (xs:List Operand) {vs cs:List Value} (A: ∀k,o=some k->k<w.heap.size) (B:fD ops D gu=some none) (C:aC N d=true) (hp:parts.toList=number xs) (he:cB P t e sz=true)
  (E:DArgs (Oper.looksAt ops.toArray ⟨d,.buildSlice t len parts,ty,pos,af,gu⟩) N ds D none xs vs) (hl:len=vs.length)
  (F:vs.all (λv=>Nat.beq v.cells.size sz)=true) (l:Nat.ble (vs.length*sz) 16777216=true) (b:Nat.blt 0 vs.length=true) (m:vs.flatMap (λv=>v.cells.toList)=cs)
  (next:DR P N ds ops w o tk Fin rest (bE D d none (.pr (OG w e len cs)))):DR P N ds ops w o tk Fin (⟨d,.buildSlice t len parts,ty,pos,af,gu⟩::rest) D:=by
 subst hl;have c:=λv p=>Nat.eq_of_beq_eq_true (List.all_eq_true.1 F v p);refine ⟨none,.pr (OG w e vs.length cs),⟨B,C,rfl,λv G H n f _ ⟨g,q,r,u⟩=>⟨g,q,GB.blk f r (λe=>by have:=A _ e; omega),u⟩,rfl,λs f=>by simp at f,λx a i n _ y=> .inl ?_⟩,next⟩;refine ⟨_,_,.inl (fK hp rfl he (E (λt z=>bB ?_) a i y x) c (Nat.le_of_ble_eq_true l) (blt_iff.1 b)),GB.of_below ((ZA).alloc ZC _),⟨λ_=>(ZA).alloc ZC _,λ_=>trivial⟩,⟨i.heap.size,rfl,?_,n.size⟩,λ_ h=>h.elim⟩
 .simp only [Op.operands];rw [hp];simp only [number,List.map_map];rw [List.mem_map];obtain ⟨j,I,he⟩:=List.getElem_of_mem z;exact ⟨(Operand.tmp t,j),by rw [List.mem_zipIdx_iff_getElem?]; simp [he.symm],rfl⟩
 .rw [m]; exact Blk.new i e cs
def KM (w0:World) (o:Option Nat) (e:TypeId) (sz n:Nat) (xs:List Value) (v:Value) (w:World):Prop:=OwnS w e sz v n xs/\(v.ownBlock=o\/ ∃g,v.ownBlock=some g/\w0.heap.size<=g)
theorem zV {t e:TypeId} {sz bytes n m:Nat} {s:Operand} {v:Value} {xs:List Value} (news:List Value) (B:d=some tk) (q:fD ops D gu=some none) (U:aC N d=true) (C:bZ P t e sz bytes=true)
  (hs:dev D s=some (none,.ex v)) (f:OwnS w e sz v n xs) (p:v.ownBlock=o) (W:dev D x=some (none,.pr (OG w e m news))) (hl:news.length=m*sz) (h1: ∀u∈news,u.oneCell'=true)
  (hb:(n+m)*bytes<=140737488355328) (E:1<=bytes)
  (next:DR P N ds ops w o tk Fin rest (bE D d none (.pr (KM w o e sz (n+m) (xs++news))))) :
  DR P N ds ops w o tk Fin (⟨d,.call ⟨.builtin .append,#[s,x],#[t,t]⟩,ty,pos,af,gu⟩::rest) D:=by
 have b:kY tk ⟨d,.call ⟨.builtin .append,#[s,x],#[t,t]⟩,ty,pos,af,gu⟩=true:=by subst B; simp [kY]
 refine ⟨none,.pr (KM w o e sz (n+m) (xs++news)),⟨q,U,rfl,λu Y Z F hs i ⟨h1,H⟩=> ?_,rfl,λs hs=>by simp at hs,λhG a I F k G=> .inl ?_⟩,next⟩
 .have i:=i b;exact ⟨h1.below i,H⟩
 .have k:=k b;have l:=f.kept λg q=>k g (p ▸ q) (f.lt q);obtain ⟨g,r,y,J⟩:=G.evalP W ZP trivial;obtain ⟨K,z,L,M,O,R⟩:=lJ C l hl (λj u S=>⟨_,rfl,y.fld S⟩) h1 hb E;refine ⟨K,z,.inl ?_,p ▸ O,⟨λh=> ?_,λ_=>trivial⟩,⟨M,?_⟩,λ_ h=>h.elim⟩
  .simp only [execOp,resolve,invoke,builtin,Sem.run_bind,Sem.run_pure,Result.andThen_ok,List.map_toArray,List.map_cons,List.map_nil];rw [G.eval hs ZP trivial,r];rw [L];rfl
  .rw [show (E6 w o tk).tok=kY tk from rfl,b] at h;cases h
  .rcases R with h|h
   .exact .inl (h.trans p)
   .exact .inr ⟨_,h,F.size⟩
theorem qh (ks:List Nat) (E:Env) (hE:lH D ks=some E) (is:List Nat) {es:List Ent} (hp:Gj D is=some es) (h: ∀e b,w.grownBy b o->Sats es e b->KW N ds K (E++EG is e) b) :
  ∀ a b,w.grownBy b o->FitD N ds D a b->K a b :=
 λa b f d=>h _ b f (d.sel hp) a ⟨d.size,d.defers,λi c v g=>(wV g).elim ((d.pick hE).slots i c v) ((d.zip is).slots i c v)⟩
end
end
section
section
variable {P:Program} {N:Nat} {ds:List Deferred} {ops rest:List Oper} {D:DE} {w:World} {G:Option Bool} {Fin:DE->Prop} {d:Option Tmp} {ty:TypeId} {pos:String} {af:Array Edge} {gu:Option (Nat×Bool)} {x y z:Operand} {cx cy cz:Option Bool}
theorem GX (e:TypeId) (sz n:Nat) (l:List Value) (h:fD ops D gu=some G) (y:aC N d=true) (he:enters P k=true)
  (z:dev D f=some (cf,.ex (.func (.func k) #[] cap.toArray))) (A:aF G->aF cf) (B:DArgs (Oper.looksAt ops.toArray ⟨d,.call ⟨.value f,xs.toArray,ts⟩,ty,pos,af,gu⟩) N ds D G xs vs)
  (C:aF G-> ∀b,ZT w b->Gives P k (vs++cap).toArray b λv c=>ZT b c/\OwnS c e sz v n l/\ ∀g,v.ownBlock=some g->b.heap.size<=g)
  (next:DW P N ds .own ops w Fin rest (bE D d G (oK w e sz n l))):DW P N ds .own ops w Fin (⟨d,.call ⟨.value f,xs.toArray,ts⟩,ty,pos,af,gu⟩::rest) D:=by
 refine OE (oK w e sz n l) [] h y rfl (gX _ _ _ _ _) rfl (λs q=>by simp at q) (λi a b j m=>⟨_,_,lK he (m.eval z ZP (A i))
  (B (λt r=>bB (by simp [Op.operands,Call.operands,r])) a b m i),(C i b j).mono λv c ⟨u,x,p⟩=> ?_⟩) (by rw [fq]; exact next)
 exact ⟨oD j u,⟨x,λg h=>Nat.le_trans j.size (p g h)⟩,λg h=> .inr (p g h)⟩
variable {o:Option Nat} {tk:Nat}
theorem GZ (φ:Value->World->Prop) (hm: ∀v w c,ZT w c->φ v w->φ v c) (m:d=some tk) (z:fD ops D gu=some G) (A:aC N d=true) (he:enters P k=true)
  (B:dev D f=some (cf,.ex (.func (.func k) #[] cap.toArray))) (C:aF G->aF cf) (E:DArgs (Oper.looksAt ops.toArray ⟨d,.call ⟨.value f,xs.toArray,ts⟩,ty,pos,af,gu⟩) N ds D G xs vs)
  (F:aF G-> ∀c,w.grownBy c o->(∀g,o=some g->g<w.heap.size->c.heap[g]?=w.heap[g]?)->Gives P k (vs++cap).toArray c λv e=>c.grownBy e o/\φ v e)
  (next:DR P N ds ops w o tk Fin rest (bE D d G (.pr φ))):DR P N ds ops w o tk Fin (⟨d,.call ⟨.value f,xs.toArray,ts⟩,ty,pos,af,gu⟩::rest) D:=by
 have b:kY tk ⟨d,.call ⟨.value f,xs.toArray,ts⟩,ty,pos,af,gu⟩=true:=by subst m; simp [kY]
 refine ⟨G,.pr φ,⟨z,A,rfl,λu H I n p i h=>hm _ _ _ (i b) h,rfl,λs p=>by simp at p,λj a c n l q=> .inr ?_⟩,next⟩;refine ⟨_,_,lK he (q.eval B ZP (C j)) (E (λt r=>bB (by simp [Op.operands,Call.operands,r])) a c q j),(F j c n (l b)).mono λv e ⟨x,y⟩=>⟨x,⟨λh=> ?_,λ_=>trivial⟩,y,λ_ h=>h.elim⟩⟩;rw [show (E6 w o tk).tok=kY tk from rfl,b] at h;cases h
theorem T7 {m n:Int} {t t':TypeId} (c:fD ops D gu=some G) (e:aC N d=true) (f:dev D x=some (cx,.ex (ZU m))) (g:aF G->aF cx) (h:dev D y=some (cy,.ex (ZU n))) (i:aF G->aF cy) (hb:aF G-> -9223372036854775808<=m+n/\m+n<=9223372036854775807)
  (next:DR P N ds ops w o tk Fin rest (bE D d G (.ex (ZU (m+n))))):DR P N ds ops w o tk Fin (⟨d,.binOp .add t x y t',ty,pos,af,gu⟩::rest) D :=
 og c e rfl (λa _ _ _ b=>Oi (b.eval f ZQ (g a)) (b.eval h ZQ (i a)) (hb a)) next
theorem TZ {m n:Int} {t t':TypeId} (c:fD ops D gu=some G) (e:aC N d=true) (f:dev D x=some (cx,.ex (ZU m))) (g:aF G->aF cx) (h:dev D y=some (cy,.ex (ZU n))) (i:aF G->aF cy) (hb:aF G-> -9223372036854775808<=m-n/\m-n<=9223372036854775807)
  (next:DR P N ds ops w o tk Fin rest (bE D d G (.ex (ZU (m-n))))):DR P N ds ops w o tk Fin (⟨d,.binOp .sub t x y t',ty,pos,af,gu⟩::rest) D :=
 og c e rfl (λa _ _ _ b=>N5 (b.eval f ZQ (g a)) (b.eval h ZQ (i a)) (hb a)) next
theorem QX {ad:Addr} {l c sz:Nat} {t e:TypeId} {k:IntKind} {i:Int} (f:fD ops D gu=some G) (g:aC N d=true) (h:P.underlying t=some (.slice e)) (hs:(P.info? e).map (·.size)=some sz) (j:dev D x=some (cx,.ex (.slice (some ad) l c))) (m:aF G->aF cx) (n:dev D y=some (cy,.ex (.int k i))) (p:aF G->aF cy) (q:aF G->0<=i/\i<(l:Int))
  (next:DR P N ds ops w o tk Fin rest (bE D d G (.ex (.pointer (some (ad.add (i.toNat*sz))))))):DR P N ds ops w o tk Fin (⟨d,.indexAddr t x y,ty,pos,af,gu⟩::rest) D :=
 og f g rfl (λa _ _ _ b=>pq h hs (b.eval j ZQ (m a)) (b.eval n ZQ (p a)) (q a)) next
theorem Bz {c y:Code} (a:Env) (J:World->Prop) (b:(∀W,J W->CW P r Q N ds y a W)->CW P r (Exit.then (y.wpIn (FR r) 0 P Q) Q) N ds c E w) (d: ∀W,J W->CW P r Q N ds y a W):CW P r (Exit.then (y.wpIn (FR r) 0 P Q) Q) N ds c E w:=b d
theorem OQ {c y:Code} (a:α->Env) (J:α->World->Prop) (b:(∀x W,J x W->CW P r Q N ds y (a x) W)->CW P r (Exit.inBlock id (Exit.then (y.wpIn (FR r) 0 P Q) Q)) N ds c E w) (d: ∀x W,J x W->CW P r Q N ds y (a x) W):CW P r (Exit.inBlock id (Exit.then (y.wpIn (FR r) 0 P Q) Q)) N ds c E w:=b d
end
end
section
def wY (p:Oper):Bool:=match p.op with
 | .store .. =>true
 | _=>false
def HY (l:List Oper):Bool:=Nat.ble (l.filter wY).length 1&&l.any λp=>wY p&&p.guard.isNone
def zY (w0:World) (g:Nat) (t:TypeId) (cs:List Value):Disc w0 where
 rel:=λw=>w0.grownBy w (some g)
 tok:=wY
 lock:=λw=>g<w0.heap.size->w.heap[g]?=w0.heap[g]?
 still:=λw w'=>ZT w w'
 lock_still:=λw w' hs hl hlt=>by
  have h:=hl hlt
  have hk':g<w.heap.size:=by
   rw [Array.getElem?_eq_getElem hlt] at h
   exact (Array.getElem?_eq_some_iff.1 h).1
  exact (hs.block g hk').trans h
 still_refl:=λw=>Below.refl _ w
 fs:= []
 fin:=λ_ w=>Blk w g t cs
 fin_still:=λ_ _ w w' _ hb h=>h.next hb
 good:=λ_ e=> ∀v w w',w0.grownBy w (some g)->w.grownBy w' (some g)->e.sat v w->e.sat v w'
 foot:=λ_ _ _ _=>False
 step:=λw w' _=>w.grownBy w' (some g)
 foot_ex:=λ_ _ _ _ h=>h
 step_refl:=λw _=>GB.refl w
 rel_step:=λw w' _ hr h=>hr.trans h
 keep:=λ_ e hg v w w' _ hr hs _ _ h=>hg v w w' hr hs h
 back:=λ_ _ _ _ _ _ _ _ _ _ _ _ _ h=>h.elim
 bound:=λ_ _ _ _ _ _ _ h=>h.elim
 inv:=λ_=>True
 inv_step:=λ_ _ _ _ _=>trivial
section
variable {P:Program} {r:Option Nat} {Q:Exit->Act->World->Prop} {N:Nat} {ds:List Deferred} {ops rest:List Oper} {D:DE} {w:World} {g:Nat} {bt:TypeId} {cs:List Value} {G:Option Bool} {Fin:DE->Prop}
def DS (P:Program) (N:Nat) (ds:List Deferred) (ops:List Oper) (w0:World) (g:Nat) (bt:TypeId) (cs:List Value) (Fin:DE->Prop):List Oper->DE->Prop
 | [],D=>Fin D
 | p::rest,D=> ∃G e,tQ P N ds ops (zY w0 g bt cs) p D G e []/\DS P N ds ops w0 g bt cs Fin rest (bE D p.dst G e)
theorem DS.entries: ∀ {a:List Oper} {D:DE},DS P N ds ops w g bt cs Fin a D ->
  ∃ b:List Lay,b.length=a.length/\Fin (fT D a b) /\
   ∀ i p G e s,a[i]?=some p->b[i]?=some (G,e,s)->tQ P N ds ops (zY w g bt cs) p (fT D (a.take i) (b.take i)) G e s
 | [],D,h=>⟨[],rfl,h,λi p G e s f _=>by simp at f⟩
 | p::a,D,h=>by
  obtain ⟨G,e,f,j⟩:=h;rw [<-fq D] at j;obtain ⟨b,k,l,m⟩:=DS.entries j;refine ⟨(G,e,[])::b,by simp [k],l,?_⟩;intro i n o q r c d
  cases i with
  | zero =>
   simp at c d;obtain ⟨rfl,rfl,rfl⟩:=d;subst c
   simpa [fT] using f
  | succ i =>
   simpa [fT] using m i n o q r c d
theorem nX {W:World} (g:Nat) (bt:TypeId) (cs:List Value) (t:Nat) (C:fU ops=true) (a3:iL ops s t=true) (v:HY (bN ops s t)=true) (F:Nat.ble s t=true) (H:Nat.ble t ops.length=true) (hb:ZT w W)
  (h:DS P N ds ops w g bt cs (λD=> ∀a R,w.grownBy R (some g)->Blk R g bt cs->FitD N ds D a R->RK P r Q ops t a R) (bN ops s t) (lift E)):RW P r Q N ds ops s E W:=by
 have F:=Nat.le_of_ble_eq_true F;have H:=Nat.le_of_ble_eq_true H;intro a ha b n I m J;obtain ⟨z,hl,hF,q⟩:=DS.entries h;have S:z.length=t-s:=by rw [hl]; unfold bN; simp; omega
 unfold HY at v;rw [Bool.and_eq_true] at v;obtain ⟨l,K⟩:=v;have l:=Nat.le_of_ble_eq_true l;have a4: ∀ {j:Nat} {L:Lay},z[j]?=some L->j<t-s:=λhg=>by rw [<-S]; exact (ZE hg).1
 refine lG (N:=N) (ds:=ds) (a0:=a) (D0:=lift E) (zY w g bt cs) C a3 F H S ?_ (λi j p p' M a5 A hj h1 h2=> ?_) (λ_ _ _ _ _ _ _ x hx=>by cases hx) ?_ ?_ n b a W I ?_ ?_
 .intro i p G e E A hg;have M:=a4 hg;exact q i p G e E (by rw [fH,if_pos M]; exact A) hg
 .exact ko l (by rw [fH,if_pos M]; exact A) h1 (by rw [fH,if_pos a5]; exact hj) h2
 .intro i c e B;rw [jM] at B
  cases f:look E i with
  | none=>rw [f] at B; cases B
  | some p =>
   rw [f] at B;obtain ⟨rfl,rfl⟩:=B;exact ⟨_,rfl,ha.slots i p.1 p.2 f⟩
 .intro n b a R I m J a6 _ U _ Y;refine hF a R a6 ?_ Y b n I m J;obtain ⟨p,hp,O⟩:=List.any_eq_true.1 K;rw [Bool.and_eq_true] at O;obtain ⟨i,A⟩:=List.mem_iff_getElem?.1 hp;have a7:i<t-s:=by
   rw [fH] at A
   split at A
   .assumption
   .cases A
  have Z:=A;rw [fH,if_pos a7] at Z;obtain ⟨G,e,E,a1⟩: ∃G e E,z[i]?=some (G,e,E):=⟨_,_,_,ZD ZJ⟩;refine U i p G e E Z a1 O.1 ?_;have a2:=(q i p G e E A a1).1;have hn:p.guard=none:=by simpa using O.2
  rw [hn] at a2;cases a2;trivial
 .refine Nat.le_trans ?_ J;have:(List.range ops.length).filter (λk=> !b.getD k false)=(List.range ops.length).filter (λk=>decide (s<=k)):=by
   refine List.filter_congr λk y=> ?_;rw [m k (by simpa using y)];by_cases h1:k<s<;>simp [h1]<;>omega
  rw [this,show ops.length=s+(ops.length-s) by omega,List.range_add,List.filter_append];simp;rw [List.filter_eq_nil_iff.2 (by intro x hx; simp at hx; simp; omega)];refine Nat.le_trans (Nat.add_le_add_left (List.length_filter_le _ _) _) ?_;simp
 .have u: ∀k,s<=k->b.getD k false=false:=by
   intro k y;rcases ZI k ops.length with h|h
   .rw [m k h]; simp; omega
   .simp [Array.getElem?_eq_none (show b.size<=k by omega)]
  refine ⟨GB.of_below hb,λk p _ _ _ _ hj=>hb.block _ hj,trivial,λk p G e E _ _ _ f _=>(by rw [u _ ZJ] at f; cases f),ha.size,ha.defers,λk y=>by rw [m k ZJ]; simp [y],λk y=>u k ZJ,?_,?_,λ_ _ _ _ _ _ _=>rfl,λ_ _=>rfl,?_⟩
  .intro k o d G e E y _ _ f;rw [u _ ZJ] at f; cases f
  .intro k o d G e E k' o' d' G' e' E' y _ _ f;rw [u _ ZJ] at f; cases f
  .intro k o y f e B a8;have a9:k<s:=by
    rcases ZI k s with h|h
    .exact h
    .rw [u k h] at f; cases f
   have aa:=(dH C y y).1 e B a8;rw [m e.on ZJ];simp; omega
theorem DS.nil (h:Fin D):DS P N ds ops w g bt cs Fin [] D:=h
theorem DS.val {p:Oper} (d:wY p=false) (k:fD ops D p.guard=some G) (l:aC N p.dst=true) (hn:dX p.op=true)
  (c:aF G-> ∀a b,w.grownBy b (some g)->FitL N ds (p.looksAt ops.toArray) D a b->(execOp a.eval p).run P b= .ok (.value v) b) (next:DS P N ds ops w g bt cs Fin rest (bE D p.dst G (.ex v))):DS P N ds ops w g bt cs Fin (p::rest) D :=
 ⟨G,.ex v,⟨k,l,hn,λ_ _ _ _ _ h=>h,rfl,λs e=>by simp at e,λf a b i _ j=> .inl ⟨v,b,.inl (c f a b i j),GB.refl _,⟨λ_=>ZA,λh=>by rw [show (zY w g bt cs).tok p=wY p from rfl,d] at h; cases h⟩,rfl,λ_ h=>h.elim⟩⟩,next⟩
variable {d:Option Tmp} {ty:TypeId} {pos:String} {af:Array Edge} {gu:Option (Nat×Bool)} {x y z:Operand} {cx cy cz:Option Bool}
theorem DS.move {vx:Value} (c:fD ops D gu=some G) (e:aC N d=true) (f:dev D x=some (cx,.ex vx)) (h:aF G->aF cx)
  (next:DS P N ds ops w g bt cs Fin rest (bE D d G (.ex vx))):DS P N ds ops w g bt cs Fin (⟨d,.move x,ty,pos,af,gu⟩::rest) D :=
 DS.val rfl c e rfl (λa _ _ _ b=>nT (b.eval f ZQ (h a))) next
theorem DS.fieldAddr {ad:Addr} {off fi:Nat} {t:TypeId} (c:fD ops D gu=some G) (e:aC N d=true) (f:lF P t fi=some off) (h:dev D x=some (cx,.ex (.pointer (some ad)))) (i:aF G->aF cx)
  (next:DS P N ds ops w g bt cs Fin rest (bE D d G (.ex (.pointer (some (ad.add off)))))):DS P N ds ops w g bt cs Fin (⟨d,.fieldAddr t x fi,ty,pos,af,gu⟩::rest) D :=
 DS.val rfl c e rfl (λa _ _ _ b=>uX f (b.eval h ZQ (i a))) next
theorem DS.load {t:TypeId} {ad:Addr} {v:Value} (h:fD ops D gu=some G) (i:aC N d=true) (h1:one P t=true) (j:dev D x=some (cx,.ex (.pointer (some ad)))) (k:aF G->aF cx) (b:aF G->w.cell? ad=some v/\ad.block≠g)
  (next:DS P N ds ops w g bt cs Fin rest (bE D d G (.ex v))):DS P N ds ops w g bt cs Fin (⟨d,.load t x,ty,pos,af,gu⟩::rest) D :=
 DS.val rfl h i rfl (λa _ _ c f=>Bh h1 (f.eval j ZQ (k a)) (GB.cell c (b a).1 (λe=>(b a).2 (by cases e; rfl)))) next
theorem DS.add {m n:Int} {t t':TypeId} (c:fD ops D gu=some G) (e:aC N d=true) (f:dev D x=some (cx,.ex (ZU m))) (h:aF G->aF cx) (i:dev D y=some (cy,.ex (ZU n))) (j:aF G->aF cy) (hb:aF G-> -9223372036854775808<=m+n/\m+n<=9223372036854775807)
  (next:DS P N ds ops w g bt cs Fin rest (bE D d G (.ex (ZU (m+n))))):DS P N ds ops w g bt cs Fin (⟨d,.binOp .add t x y t',ty,pos,af,gu⟩::rest) D :=
 DS.val rfl c e rfl (λa _ _ _ b=>Oi (b.eval f ZQ (h a)) (b.eval i ZQ (j a)) (hb a)) next
theorem DS.indexAddr {ad:Addr} {l c sz:Nat} {t e:TypeId} {k:IntKind} {i:Int} (f:fD ops D gu=some G) (h:aC N d=true) (j:P.underlying t=some (.slice e)) (hs:(P.info? e).map (·.size)=some sz) (m:dev D x=some (cx,.ex (.slice (some ad) l c))) (n:aF G->aF cx) (p:dev D y=some (cy,.ex (.int k i))) (q:aF G->aF cy) (r:aF G->0<=i/\i<(l:Int))
  (next:DS P N ds ops w g bt cs Fin rest (bE D d G (.ex (.pointer (some (ad.add (i.toNat*sz))))))):DS P N ds ops w g bt cs Fin (⟨d,.indexAddr t x y,ty,pos,af,gu⟩::rest) D :=
 DS.val rfl f h rfl (λa _ _ _ b=>pq j hs (b.eval m ZQ (n a)) (b.eval p ZQ (q a)) (r a)) next
theorem DS.store {t:TypeId} {j:Nat} {cs0:List Value} {u:Value} (m:gu=none) (hs:(P.info? t).map (·.size)=some 1) (v:dev D x=some (none,.ex (.pointer (some (Addr.add ⟨g,0,none⟩ j))))) (z:dev D y=some (none,.ex u)) (r:Blk w g bt cs0) (hj:j<cs0.length) (h1:u.oneCell'=true) (n:cs0.set j u=cs)
  (next:DS P N ds ops w g bt cs Fin rest D):DS P N ds ops w g bt cs Fin (⟨none,.store t x y,ty,pos,af,gu⟩::rest) D:=by
 subst m;refine ⟨none,.pr λ_ _=>True,⟨rfl,rfl,rfl,λ_ _ _ _ _ _=>trivial,rfl,λs hs=>by simp at hs,λA a d B f p=> .inl ?_⟩,next⟩;have b:Blk d g bt cs0:=(f rfl r.lt).trans r;refine ⟨undef,d.setCell ⟨g,j,none⟩ u,.inr ⟨rfl,?_⟩,But.setCell,⟨λh=>(by cases h),λ_=> ?_⟩,trivial,λ_ h=>h.elim⟩
 .simp only [execOp];have c:=p.eval v ZQ trivial;have e:u.cells= #[u]:=by cases u<;>first|rfl|simp [Value.oneCell'] at h1
  have i:=b.fld (ZD hj);rw [dQ] at c i;have q:d.frozen? ⟨g,j,none⟩=false:=b.frozen _;obtain ⟨k,l⟩: ∃k:Addr,k=⟨g,j,none⟩:=⟨_,rfl⟩;rw [<-l] at c i q ⊢;rw [c,p.eval z ZQ trivial];simp [Instr.storeAt,Instr.sureAddr,storeVar,run_sizeOf hs,e,storeCells,run_store P d k u .plain h1,i,q,Addr.add]
 .rw [<-n];exact b.set j u
theorem DS.fin (is:List Nat) (E:Env) (hp:lH D is=some E) (h: ∀b,w.grownBy b (some g)->Blk b g bt cs->KW N ds K E b): ∀a b,w.grownBy b (some g)->Blk b g bt cs->FitD N ds D a b->K a b :=
 λa b c d e=>h b c d a (e.pick hp)
end
end
section
open Go.ChangeMaps
variable {P:Program} {κ:Type} {kt:TypeId}
theorem WalkM.mapl {K:GKey P kt κ} {r:Nat} {m:List (κ×Value)} {pre:List κ} {last:Option (κ×Value)} (h:WalkM K w r bm m pre last):MapL K w bm m:=by
 obtain ⟨f,a,b,d,o,g,i,j,p,k,q,s,l,c,t⟩:=h;exact ⟨⟨f,a,g,i,j,λe n=>by have:=k e n; omega⟩,c⟩
theorem PZ {m:List (κ×Value)} (l:m.Pairwise λp q=>p.1≠q.1) {k:κ} {vz:Value} {j:Nat} (hj:m[j]?=some (k,u)):jK m k vz=m.set j (k,vz):=by
 unfold jK;rw [if_pos ⟨(k,u),ZF hj,rfl⟩];have b:=(ZE hj).1;have c:m[j].1=k:=by
  have:=ZD b;rw [hj] at this;simp only [Option.some.injEq] at this;rw [<-this]
 apply List.ext_getElem?;intro i;rw [List.getElem?_map,List.getElem?_set];by_cases d:j=i
 .subst d;rw [if_pos rfl,if_pos b,hj];simp
 .rw [if_neg d];rcases ZI i m.length with a|f
  .rw [ZD a];have n:=List.pairwise_iff_getElem.1 l;have g:m[i].1≠k:=by
    rcases ZI i j with h|h
    .have:=n i j a b h; rw [c] at this; exact this
    .have:=n j i b a ZJ; rw [c] at this; exact λe=>this e.symm
   simp [g]
  .rw [List.getElem?_eq_none f]; rfl
theorem BG (K:GKey P kt κ) (ht:P.underlying t=some (.map kt et)) {m:List (κ×Value)} {pre:List κ} {last:Option (κ×Value)} (h:WalkM K w it bm m pre last) {k:κ} (W: ∃u,(k,u)∈m) (vz:Value) :
  ∃ F,(Instr.mapUpdate t (.map (some bm)) (K.enc k) vz).run P w= .ok () F/\F.heap.size=w.heap.size/\But bm w F/\WalkM K F it bm (jK m k vz) pre none:=by
 have H:=h.ne;obtain ⟨b,a,r,A,Z,I,G,J,h4,h5,h6,h7,L,B,h8⟩:=h;obtain ⟨rr,hr,s,y⟩:=K.find w k m b.toList G;have M:=(Array.getElem?_eq_some_iff.1 I).1;have C:(getObj bm).run P w= .ok (.map b a) w:=by simp [getObj,Sem.run,I]
 have D: ∀o,(setObj bm o).run P w= .ok () {w with heap:=w.heap.setIfInBounds bm o}:=λo=>by simp [setObj,Sem.run,I]
 cases rr with
 | none =>
  obtain ⟨u,hu⟩:=W
  exact absurd rfl (s rfl (k,u) hu)
 | some p =>
  obtain ⟨j,u⟩:=p;have N:=y j u rfl;have O:=(ZE N).1;have Y:b.toList.length=m.length:=by have:=congrArg List.length G; simpa using this
  have n:j<b.size:=by simpa using (show j<b.toList.length by omega)
  have q:b[j].key=K.enc k:=by
   have:=congrArg (λl=>l[j]?) G;simp only [List.getElem?_map,N] at this;simp [n] at this;exact this.1
  have E:(Instr.mapUpdate t (.map (some bm)) (K.enc k) vz).run P w= .ok () {w with heap:=w.heap.setIfInBounds bm (.map (b.modify j λe=> {e with key:=K.enc k,val:=vz}) a)}:=by
   simp only [Instr.mapUpdate];simp [run_underlying ht,C,K.ok,hr,Instr.keyThatStays,n,q,K.bits k,D]
  have z:(b.modify j λe=> {e with key:=K.enc k,val:=vz}).toList.map (·.born)=b.toList.map (·.born):=by
   apply List.ext_getElem?;intro i;simp only [List.getElem?_map,Array.getElem?_toList,Array.getElem?_modify]
   split
   .cases b[i]?<;>rfl
   .rfl
  have c: ∀e∈(b.modify j λe=> {e with key:=K.enc k,val:=vz}).toList,∃x∈b.toList,x.born=e.born/\x.key=e.key:=by
   intro e d;obtain ⟨i,g⟩:=List.mem_iff_getElem?.1 d;rw [Array.getElem?_toList,Array.getElem?_modify] at g
   split at g
   .rename_i f;subst f;rw [Array.getElem?_eq_getElem n] at g;simp only [Option.map_some,Option.some.injEq] at g;subst g;exact ⟨b[j],ZM,rfl,q⟩
   .exact ⟨e,by rw [List.mem_iff_getElem?]; exact ⟨i,by rw [Array.getElem?_toList]; exact g⟩,rfl,rfl⟩
  refine ⟨_,E,ZM,⟨rfl,rfl,rfl,ZM,λi g hn=> ?_⟩,b.modify j λe=> {e with key:=K.enc k,val:=vz},a,r,A,Z,by simp [M],?_,by rw [z]; exact J,?_,λe d=> ?_,h6,λe d k' R=> ?_,L,zf B k vz,λk v hk=>by cases hk⟩
  .have:bm≠i:=λe=>hn (by rw [e]);simp [Array.getElem?_setIfInBounds_ne this]
  .rw [PZ B N];apply List.ext_getElem?;intro i;have g:=congrArg (λl=>l[i]?) G;simp only [List.getElem?_map,Array.getElem?_toList,Array.getElem?_modify,List.getElem?_set];by_cases f:j=i
   .subst f;simp [n,O]
   .rw [if_neg f,if_neg f];simpa using g
  .simp [Array.getElem?_setIfInBounds_ne (Ne.symm H)];exact h4
  .obtain ⟨x,S,U,_⟩:=c e d;rw [<-U]; exact h5 x S
  .obtain ⟨x,S,U,e2⟩:=c e d;rw [<-U]; exact h7 x S k' (e2.trans R)
theorem pU {α β:Type} (f:α->β): ∀(l:List α) (i:Nat),(l.eraseIdx i).map f=(l.map f).eraseIdx i
 | [],_=>rfl
 | _::_,0=>rfl
 | x::l,i+1=>by
  show f x::(l.eraseIdx i).map f=f x::(l.map f).eraseIdx i;rw [pU f l i]
theorem BH (K:GKey P kt κ) {ty:TypeId} {ats:Array TypeId} (hat:ats[0]?=some t) (ht:P.underlying t=some (.map kt et)) {m:List (κ×Value)} {pre:List κ} {last:Option (κ×Value)} (h:WalkM K w it bm m pre last) {k:κ} (hin: ∃u,(k,u)∈m) :
  ∃ w' m',(Builtin.delete_ ats ty #[.map (some bm),K.enc k]).run P w= .ok (.tuple #[]) w'/\w'.heap.size=w.heap.size/\But bm w w'/\WalkM K w' it bm m' pre none/\ ∀p,p∈m'↔p∈m/\p.1≠k:=by
 have hne:=h.ne;obtain ⟨es,clock,since,seen,c0,hh,he,hbn,h4,h5,h6,h7,hsc,hon,h8⟩:=h;obtain ⟨rr,hr,hnone,hsome⟩:=K.find w k m es.toList he;have hlt:=(Array.getElem?_eq_some_iff.1 hh).1;have hobj:(getObj bm).run P w= .ok (.map es clock) w:=by simp [getObj,Sem.run,hh]
 have hset: ∀o,(setObj bm o).run P w= .ok () {w with heap:=w.heap.setIfInBounds bm o}:=λo=>by simp [setObj,Sem.run,hh]
 cases rr with
 | none =>
  obtain ⟨u,hu⟩:=hin
  exact absurd rfl (hnone rfl (k,u) hu)
 | some p =>
  obtain ⟨j,u⟩:=p;have hj:=hsome j u rfl;have hjm:=(ZE hj).1;have hlen:es.toList.length=m.length:=by have:=congrArg List.length he; simpa using this
  have hje:j<es.size:=by simpa using (show j<es.toList.length by omega)
  have hl:(es.eraseIdxIfInBounds j).toList=es.toList.eraseIdx j:=by
   unfold Array.eraseIdxIfInBounds;rw [dif_pos hje,Array.toList_eraseIdx]
  have hsub: ∀e∈(es.eraseIdxIfInBounds j).toList,e∈es.toList:=λe he'=>by
   rw [hl] at he';exact (List.eraseIdx_sublist _ _).subset he'
  have hrun:(Builtin.delete_ ats ty #[.map (some bm),K.enc k]).run P w= .ok (.tuple #[]) {w with heap:=w.heap.setIfInBounds bm (.map (es.eraseIdxIfInBounds j) clock)}:=by
   simp [Builtin.delete_,hat,run_underlying ht,hobj,K.ok,hr,hset]
  have hmj:m[j]'hjm=(k,u):=by
   have:=ZD hjm;rw [hj] at this;simpa using this.symm
  refine ⟨_,m.eraseIdx j,hrun,ZM,⟨rfl,rfl,rfl,ZM,λi hi hn=> ?_⟩,⟨_,clock,since,seen,c0,by simp [hlt],?_,?_,?_,λe he'=>h5 e (hsub e he'),h6,λe he' k' hk'=>h7 e (hsub e he') k' hk',hsc,hon.sublist (List.eraseIdx_sublist _ _),λk v hk=>by cases hk⟩,λp=> ?_⟩
  .have:bm≠i:=λe=>hn (by rw [e]);simp [Array.getElem?_setIfInBounds_ne this]
  .rw [hl,pU,he,pU]
  .rw [hl,pU];exact hbn.sublist (List.eraseIdx_sublist _ _)
  .simp [Array.getElem?_setIfInBounds_ne (Ne.symm hne)];exact h4
  .have hp:=List.pairwise_iff_getElem.1 hon;rw [List.mem_eraseIdx_iff_getElem];constructor
   .rintro ⟨i,hi,hij,rfl⟩;refine ⟨List.getElem_mem hi,λe=> ?_⟩;rcases ZI i j with q|q
    .have:=hp i j hi hjm q;rw [hmj] at this;exact this e
    .have:=hp j i hjm hi ZJ;rw [hmj] at this;exact this e.symm
   .rintro ⟨hm,hk'⟩;obtain ⟨i,hi,rfl⟩:=List.getElem_of_mem hm;refine ⟨i,hi,λe=> ?_,rfl⟩;subst e;rw [hmj] at hk';exact hk' rfl
end
end Go.PF
