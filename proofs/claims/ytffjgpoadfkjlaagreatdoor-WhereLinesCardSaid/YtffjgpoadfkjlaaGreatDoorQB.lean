/- Texts of this claim,joined. -/
import Derived.Test.YtffjgpoadfkjlaaGreatDoorQA
import Derived.Maps.AppendAt
import Derived.RangeFuncNested
import Derived.Lib.SliceRun
set_option linter.unusedSimpArgs false
set_option linter.unusedVariables false
set_option maxRecDepth 100000
set_option maxHeartbeats 4000000
namespace Go.PF
open Go.RowKit
section
variable {P:Program} {r:Option Nat} {Q:Exit→Act→World→Prop} {N:Nat} {ds:List Deferred} {ops rest:List Oper} {E:Env} {D:DE} {w:World} {G:Option Bool} {Fin:DE→Prop} {md:Mode}
variable {d:Option Tmp} {ty:TypeId} {pos:String} {af:Array Edge} {gu:Option (Nat×Bool)}
variable {x y z:Operand} {cx cy cz:Option Bool} {ρ:Operand→Value}
def number {α:Type} (l:List α):List (Nat×α):=(l.zipIdx 0).map fun p=>(p.2,p.1)
theorem map_number {α β:Type} (f:α→β) (l:List α):(number l).map (fun p=>(p.1,f p.2))=number (l.map f):=by
 simp [number,List.zipIdx_map,Function.comp_def]
def elemOK (P:Program) (t e:TypeId) (sz:Nat):Bool:=match P.underlying t,P.info? e with
 | some (.slice e'),some i=>match i.zero with
  | some zv=>Nat.beq e' e&&Nat.beq i.size sz&&Nat.beq zv.cells.size sz&&Nat.blt 0 sz
  | none=>false
 | _,_=>false
theorem elemOK_spec {t e:TypeId} {sz:Nat} (h:elemOK P t e sz=true): ∃i zv,P.underlying t=some (.slice e)∧P.info? e=some i∧i.zero=some zv∧i.size=sz∧zv.cells.size=sz∧0<sz:=by
 unfold elemOK at h
 split at h
 ·rename_i e' i hu hi
  split at h
  ·rename_i zv hz
   simp only [Bool.and_eq_true] at h
   obtain ⟨⟨⟨h1,h2⟩,h3⟩,h4⟩:=h
   have:=Nat.eq_of_beq_eq_true h1
   subst this
   exact ⟨i,zv,hu,hi,hz,Nat.eq_of_beq_eq_true h2,Nat.eq_of_beq_eq_true h3,blt_iff.1 h4⟩
  ·cases h
 ·cases h
theorem run_buildSlice_dense {t e:TypeId} {sz:Nat} (he:elemOK P t e sz=true) {vs:List Value} (hv: ∀v∈vs,v.cells.size=sz) (hsm:vs.length*sz≤16777216) (hpos:0<vs.length) (w:World) :
  (Instr.buildSlice t vs.length (number vs).toArray).run P w= .ok (.slice (some ⟨w.heap.size,0,none⟩) vs.length vs.length) (w.alloc (.cells (vs.flatMap fun v=>v.cells.toList).toArray e)):=by
 obtain ⟨i,zv,hu,hi,hz,rfl,hzs,hs⟩:=elemOK_spec he
 have hp:0<vs.length*i.size:=Nat.mul_pos hpos hs
 refine run_buildSlice w t e vs.length _ _ i zv hu hi hz (by simp only [Nat.reducePow]; omega) (by omega) ?_
 simp only [number]
 exact Great.fill_whole hs vs _ hv (by simp)
theorem X.buildSlice {t e:TypeId} {sz len:Nat} {parts:Array (Nat×Operand)} {xs:List Operand} {vs:List Value} (hp:parts.toList=number xs) (hl:len=vs.length) (he:elemOK P t e sz=true) (hx:xs.map ρ=vs) (hv: ∀v∈vs,v.cells.size=sz) (hsm:vs.length*sz≤16777216) (hpos:0<vs.length) :
  (execOp ρ ⟨d,.buildSlice t len parts,ty,pos,af,gu⟩).run P w= .ok (.value (.slice (some ⟨w.heap.size,0,none⟩) vs.length vs.length)) (w.alloc (.cells (vs.flatMap fun v=>v.cells.toList).toArray e)):=by
 subst hl
 have e1:parts.map (fun (i,x)=>(i,ρ x))=(number vs).toArray:=by
  apply Array.toList_inj.1
  rw [Array.toList_map,hp,←hx,←map_number]
 simp only [execOp]
 rw [e1]
 simp [run_buildSlice_dense he hv hsm hpos w]
theorem TW.buildSlice {t:TypeId} (e:TypeId) {sz len:Nat} {parts:Array (Nat×Operand)} (xs:List Operand) {vs cs:List Value} (hg:gu=none) (hd:okDst N d=true) (hp:parts.toList=number xs) (he:elemOK P t e sz=true) (hx:Args N ds E none xs vs) (hl:len=vs.length)
  (hv:vs.all (fun v=>Nat.beq v.cells.size sz)=true) (hsm:Nat.ble (vs.length*sz) 16777216=true) (hpos:Nat.blt 0 vs.length=true) (hcs:vs.flatMap (fun v=>v.cells.toList)=cs)
  (next: ∀g w',Fresh w w' g e cs→TW P r Q N ds ops rest (ins E d none (.slice (some ⟨g,0,none⟩) len len)) w'):TW P r Q N ds ops (⟨d,.buildSlice t len parts,ty,pos,af,gu⟩::rest) E w:=by
 subst hl
 have hv': ∀v∈vs,v.cells.size=sz:=fun v hm=>Nat.eq_of_beq_eq_true (List.all_eq_true.1 hv v hm)
 refine TW.eff hg hd rfl (fun a ha=>X.buildSlice hp rfl he (hx a ha trivial) hv' (Nat.le_of_ble_eq_true hsm) (blt_iff.1 hpos)) ?_
 rw [hcs]
 exact next _ _ (Fresh.mk' w e cs)
theorem TW.buildSlice0 {t:TypeId} (e:TypeId) {sz:Nat} (hg:gu=none) (hd:okDst N d=true) (he:elemOK P t e sz=true)
  (next: ∀g w',Fresh w w' g e []→TW P r Q N ds ops rest (ins E d none (.slice (some ⟨g,0,none⟩) 0 0)) w'):TW P r Q N ds ops (⟨d,.buildSlice t 0 #[],ty,pos,af,gu⟩::rest) E w:=by
 obtain ⟨i,zv,hu,hi,hz,rfl,hzs,hs⟩:=elemOK_spec he
 refine TW.eff (v:= .slice (some ⟨w.heap.size,0,none⟩) 0 0) (w':=w.alloc (.cells [].toArray e)) hg hd rfl (fun a ha=> ?_) (next _ _ (Fresh.mk' w e []))
 simp [execOp,Instr.buildSlice,run_underlying hu,sizeOf,typeInfo,hi,Instr.fill,newRow,Array.range_zero']
def Lies (e:TypeId) (len:Nat) (cs:List Value) (v:Value) (w:World):Prop:= ∃g,v= .slice (some ⟨g,0,none⟩) len len∧Blk w g e cs
theorem Lies.mono (e:TypeId) (len:Nat) (cs:List Value):Ent.mono (.pr (Lies e len cs)):=fun _ _ _ hb ⟨g,hv,hB⟩=>⟨g,hv,hB.next hb⟩
theorem DW.buildSlice {t:TypeId} (e:TypeId) {sz len:Nat} {parts:Array (Nat×Operand)} (xs:List Operand) {vs cs:List Value} (hg:dgd ops D gu=some G) (hd:okDst N d=true) (hp:parts.toList=number xs) (he:elemOK P t e sz=true)
  (hx:DArgs (Oper.looksAt ops.toArray ⟨d,.buildSlice t len parts,ty,pos,af,gu⟩) N ds D G xs vs) (hl:len=vs.length)
  (hv:vs.all (fun v=>Nat.beq v.cells.size sz)=true) (hsm:Nat.ble (vs.length*sz) 16777216=true) (hpos:Nat.blt 0 vs.length=true) (hcs:vs.flatMap (fun v=>v.cells.toList)=cs)
  (next:DW P N ds .weak ops w Fin rest (dins D d G (.pr (Lies e len cs)))):DW P N ds .weak ops w Fin (⟨d,.buildSlice t len parts,ty,pos,af,gu⟩::rest) D:=by
 subst hl
 have hv': ∀v∈vs,v.cells.size=sz:=fun v hm=>Nat.eq_of_beq_eq_true (List.all_eq_true.1 hv v hm)
 refine DW.gen hg hd rfl (Lies.mono e _ cs) (fun hG a w' hb ha=> ?_) next
 refine ⟨_,_,X.buildSlice hp rfl he (hx (fun t ht=>mem_looks ?_) a w' ha hG) hv' (Nat.le_of_ble_eq_true hsm) (blt_iff.1 hpos),(Below.refl _ _).alloc (Nat.le_refl _) _,w'.heap.size,rfl,?_⟩
 ·have:(t,Operand.tmp t)=(t,Operand.tmp t):=rfl
  simp only [Op.operands]
  rw [hp]
  simp only [number,List.map_map]
  rw [List.mem_map]
  obtain ⟨j,hj,he⟩:=List.getElem_of_mem ht
  exact ⟨(Operand.tmp t,j),by rw [List.mem_zipIdx_iff_getElem?]; simp [he.symm],rfl⟩
 ·rw [hcs]; exact Blk.new w' e cs
theorem X.build {t:TypeId} {parts:Array (Nat×Operand)} {is:List Nat} {xs:List Operand} {vs:List Value} {cs:List Value} (hp:parts.toList=is.zip xs) (hx:xs.map ρ=vs) (hb:P.built t (is.zip vs)=some cs.toArray) :
  (execOp ρ ⟨d,.build t parts,ty,pos,af,gu⟩).run P w= .ok (.value (.agg cs.toArray)) w:=by
 have e1:(parts.map fun (i,x)=>(i,ρ x)).toList=is.zip vs:=by
  rw [Array.toList_map,hp,←hx]
  clear hp hb hx
  induction is generalizing xs with
  | nil=>simp
  | cons i is ih=>cases xs with
   | nil=>simp
   | cons x xs=>simp [ih]
 simp only [execOp]
 simp [run_build w t _ cs.toArray (by rw [e1]; exact hb)]
theorem TW.build {t:TypeId} {parts:Array (Nat×Operand)} (is:List Nat) (xs:List Operand) {vs:List Value} (cs:List Value) (hg:gd ops E gu=some G) (hd:okDst N d=true) (hp:parts.toList=is.zip xs) (hx:Args N ds E G xs vs) (hb:P.built t (is.zip vs)=some cs.toArray)
  (next:TW P r Q N ds ops rest (ins E d G (.agg cs.toArray)) w):TW P r Q N ds ops (⟨d,.build t parts,ty,pos,af,gu⟩::rest) E w :=
 TW.val hg hd rfl (fun hG a ha=>X.build hp (hx a ha hG) hb) next
theorem mem_parts {parts:Array (Nat×Operand)} {is:List Nat} {xs:List Operand} (hp:parts.toList=is.zip xs) (hle:Nat.ble xs.length is.length=true) {t:Nat} (h:Operand.tmp t∈xs):Operand.tmp t∈((parts.toList.map (·.2)).toArray).toList:=by
 have hle':=Nat.le_of_ble_eq_true hle
 rw [hp]
 simp only [List.map_snd_zip hle']
 exact h
theorem DW.build {t:TypeId} {parts:Array (Nat×Operand)} (is:List Nat) (xs:List Operand) {vs:List Value} (cs:List Value) (hg:dgd ops D gu=some G) (hd:okDst N d=true) (hp:parts.toList=is.zip xs) (hle:Nat.ble xs.length is.length=true)
  (hx:DArgs (Oper.looksAt ops.toArray ⟨d,.build t parts,ty,pos,af,gu⟩) N ds D G xs vs) (hb:P.built t (is.zip vs)=some cs.toArray)
  (next:DW P N ds md ops w Fin rest (dins D d G (.ex (.agg cs.toArray)))):DW P N ds md ops w Fin (⟨d,.build t parts,ty,pos,af,gu⟩::rest) D :=
 DW.val hg hd rfl (fun hG a w' _ ha=>X.build hp (hx (fun t ht=>mem_looks (mem_parts hp hle ht)) a w' ha hG) hb) next
def growOK (P:Program) (t e:TypeId) (sz bytes:Nat):Bool:=match P.underlying t,P.info? e with
 | some (.slice e'),some i=>match i.zero with
  | some zv=>Nat.beq e' e&&Nat.beq i.size sz&&Nat.beq i.bytes bytes&&Nat.beq zv.cells.size sz&&Nat.blt 0 sz
  | none=>false
 | _,_=>false
theorem growOK_spec {t e:TypeId} {sz bytes:Nat} (h:growOK P t e sz bytes=true): ∃i zv,P.underlying t=some (.slice e)∧P.info? e=some i∧i.zero=some zv∧i.size=sz∧i.bytes=bytes∧zv.cells.size=sz∧0<sz:=by
 unfold growOK at h
 split at h
 ·rename_i e' i hu hi
  split at h
  ·rename_i zv hz
   simp only [Bool.and_eq_true] at h
   obtain ⟨⟨⟨⟨h1,h2⟩,h5⟩,h3⟩,h4⟩:=h
   have:=Nat.eq_of_beq_eq_true h1
   subst this
   exact ⟨i,zv,hu,hi,hz,Nat.eq_of_beq_eq_true h2,Nat.eq_of_beq_eq_true h5,Nat.eq_of_beq_eq_true h3,blt_iff.1 h4⟩
  ·cases h
 ·cases h
def OwnS (w:World) (e:TypeId) (sz:Nat) (v:Value) (n:Nat) (xs:List Value):Prop:=w.ownsRow 0 e sz v n xs
theorem OwnS.nil (w:World) (e:TypeId) (sz:Nat):OwnS w e sz (.slice none 0 0) 0 []:=⟨by simp,.inl ⟨rfl,rfl⟩⟩
theorem OwnS.kept {w w':World} {e:TypeId} {sz n:Nat} {v:Value} {xs:List Value} (h:OwnS w e sz v n xs) (hk: ∀g,v.ownBlock=some g→w'.heap[g]?=w.heap[g]?):OwnS w' e sz v n xs:=by
 refine ⟨h.1,?_⟩
 rcases h.2 with h2|⟨g,cap,cur,hv,hg,hh,hr⟩
 ·exact .inl h2
 ·exact .inr ⟨g,cap,cur,hv,hg,by rw [hk g (by rw [hv]; rfl)]; exact hh,hr⟩
theorem OwnS.lt {w:World} {e:TypeId} {sz n:Nat} {v:Value} {xs:List Value} (h:OwnS w e sz v n xs) {g:Nat} (hg:v.ownBlock=some g):g<w.heap.size:=by
 rcases h.2 with ⟨rfl,_⟩|⟨g',cap,cur,hv,_,hh,_⟩
 ·simp [Value.ownBlock] at hg
 ·rw [hv] at hg
  simp [Value.ownBlock] at hg
  subst hg
  exact (Array.getElem?_eq_some_iff.1 hh).1
theorem OwnS.below {w w':World} {e:TypeId} {sz n:Nat} {v:Value} {xs:List Value} (h:OwnS w e sz v n xs) (hb:Below w.heap.size w w'):OwnS w' e sz v n xs:=h.kept fun _ hg=>hb.block _ (h.lt hg)
theorem OwnS.form {w:World} {e:TypeId} {sz n:Nat} {v:Value} {xs:List Value} (h:OwnS w e sz v n xs): ∃A cap,v= .slice A n cap∧n≤cap∧xs.length=n*sz ∧
  (∀j u,xs[j]?=some u→ ∃g,A=some ⟨g,0,none⟩∧v.ownBlock=some g∧w.cell? ⟨g,j,none⟩=some u∧w.frozen? ⟨g,j,none⟩=false):=by
 rcases h.2 with ⟨rfl,rfl⟩|⟨g,cap,cur,hv,hg,hh,h1,h2,h3,h4⟩
 ·refine ⟨none,0,rfl,Nat.le_refl _,h.1,fun j u hj=> ?_⟩
  have:xs= []:=List.eq_nil_of_length_eq_zero (by simpa using h.1)
  rw [this] at hj
  simp at hj
 ·refine ⟨some ⟨g,0,none⟩,cap,hv,h1,h.1,fun j u hj=>⟨g,rfl,by rw [hv]; rfl,?_,?_⟩⟩
  ·rw [←h4] at hj
   rw [List.getElem?_take] at hj
   split at hj
   ·simp [World.cell?,hh]; simpa using hj
   ·cases hj
  ·simp [World.frozen?,hh]
theorem append_run {t e:TypeId} {sz bytes n m c:Nat} {v:Value} {xs:List Value} {A:Option Addr} {news:List Value} (ho:growOK P t e sz bytes=true) (hown:OwnS w e sz v n xs) (hl:news.length=m*sz) (hn: ∀j u,news[j]?=some u→ ∃ad,A=some ad∧w.cell? (ad.add j)=some u) (h1: ∀u∈news,u.oneCell'=true)
  (hb:(n+m)*bytes≤140737488355328) (hb0:1≤bytes): ∃v' w',(Builtin.append_ #[t,t] ty #[v,.slice A m c]).run P w= .ok v' w'∧OwnS w' e sz v' (n+m) (xs++news)∧w.grownBy w' v.ownBlock∧(v'.ownBlock=v.ownBlock∨v'.ownBlock=some w.heap.size):=by
 obtain ⟨i,zv,hu,hi,hz,h2,h3,h4,h5⟩:=growOK_spec ho
 have h63:n+m≤maxLen:=by
  have:n+m≤(n+m)*bytes:=Nat.le_mul_of_pos_right _ hb0
  simp only [maxLen]; omega
 rcases A with _|ad
 ·have hnil:news= []:=by
   cases news with
   | nil=>rfl
   | cons u us=>obtain ⟨ad,h,_⟩:=hn 0 u rfl; cases h
  subst hnil
  have hm:m=0:=by
   rcases Nat.eq_zero_or_pos m with h|h
   ·exact h
   ·have:=Nat.mul_pos h h5; simp at hl; omega
  subst hm
  refine ⟨v,w,?_,by simpa [OwnS] using hown,⟨rfl,rfl,rfl,Nat.le_refl _,fun _ _ _=>rfl⟩,.inl rfl⟩
  rcases hown.2 with ⟨rfl,rfl⟩|⟨g,cap,cur,rfl,_,_,hnc,_⟩
  ·simp [Builtin.append_,run_underlying hu,sizeOf,typeInfo,hi,Builtin.lenOf,Builtin.firstCells]
  ·simp [Builtin.append_,run_underlying hu,sizeOf,typeInfo,hi,Builtin.lenOf,Builtin.firstCells,hnc,storeCells]
 ·obtain ⟨v',w',a1,a2,a3,_,a5⟩:=run_append_own_at (P:=P) w 0 t ty e i zv sz bytes hu hi hz h2 h3 h4 h5 v n xs hown ad m c news hl (fun j u hj=>by
   obtain ⟨ad',e1,e2⟩:=hn j u hj
   simp only [Option.some.injEq] at e1
   subst e1; exact e2) h1 h63 hb (Nat.zero_le _)
  exact ⟨v',w',a1,a2,a3,a5⟩
theorem TW.append {t e:TypeId} {sz bytes n m c:Nat} {s:Operand} {v:Value} {xs:List Value} {A:Option Addr} (news:List Value) (hg:gu=none) (hd:okDst N d=true) (ho:growOK P t e sz bytes=true)
  (hs:ev E s=some (none,v)) (hown:OwnS w e sz v n xs) (hx:ev E x=some (none,.slice A m c)) (hl:news.length=m*sz) (hn: ∀j u,news[j]?=some u→ ∃ad,A=some ad∧w.cell? (ad.add j)=some u) (h1: ∀u∈news,u.oneCell'=true)
  (hb:(n+m)*bytes≤140737488355328) (hb0:1≤bytes)
  (next: ∀v' w',OwnS w' e sz v' (n+m) (xs++news)→w.grownBy w' v.ownBlock→(v'.ownBlock=v.ownBlock∨v'.ownBlock=some w.heap.size)→TW P r Q N ds ops rest (ins E d none v') w') :
  TW P r Q N ds ops (⟨d,.call ⟨.builtin .append,#[s,x],#[t,t]⟩,ty,pos,af,gu⟩::rest) E w:=by
 obtain ⟨v',w',a1,a2,a3,a5⟩:=append_run (ty:=ty) (c:=c) ho hown hl hn h1 hb hb0
 refine TW.eff (v:=v') (w':=w') hg hd rfl (fun a ha=> ?_) (next v' w' a2 a3 a5)
 simp only [execOp,resolve,invoke,builtin,Sem.run_bind,Sem.run_pure,Result.andThen_ok,List.map_toArray,List.map_cons,List.map_nil,ha.eval hs trivial,ha.eval hx trivial,a1]
theorem run_checkKey_string {kt:TypeId} (h:P.underlying kt=some .string) (e:Bool) (n:Nat) (a:ByteArray) (w:World):(Instr.checkKey e (n+1) kt (.string a)).run P w= .ok () w:=by
 simp [Instr.checkKey,run_underlying h]
theorem run_checkKey_int {kt:TypeId} {k:IntKind} (h:P.underlying kt=some (.int k)) (e:Bool) (n:Nat) (a:Int) (w:World):(Instr.checkKey e (n+1) kt (.int k a)).run P w= .ok () w:=by
 simp [Instr.checkKey,run_underlying h]
structure Key (P:Program) (kt:TypeId) (κ:Type) where
 enc:κ→Value
 eqb:κ→κ→Bool
 kd:TypeDesc
 und:P.underlying kt=some kd
 same: ∀a b,Instr.sameNow kd (enc a) (enc b)=some (eqb a b)
 bits: ∀a b,eqb a b=true→Instr.sameBits 10000 (enc b) (enc a)=true
 ok: ∀(e:Bool) (a:κ) (w:World),(Instr.checkKey e 10000 kt (enc a)).run P w= .ok () w
def strKey (P:Program) (kt:TypeId) (h:P.underlying kt=some .string):Key P kt ByteArray where
 enc:= .string
 eqb:=fun a b=>a.toList==b.toList
 kd:= .string
 und:=h
 same:=fun a b=>by show some (a==b)=_; rw [beq_toListBytes]
 bits:=fun a b h=>by show (b==a)=true; rw [beq_toListBytes,beq_iff_eq] at *; exact h.symm
 ok:=fun e a w=>run_checkKey_string h e 9999 a w
def intKey (P:Program) (kt:TypeId) (k:IntKind) (h:P.underlying kt=some (.int k)):Key P kt Int where
 enc:= .int k
 eqb:=fun a b=>a==b
 kd:= .int k
 und:=h
 same:=fun a b=>by simp [Instr.sameNow]
 bits:=fun a b h=>by
  have:a=b:=by simpa using h
  subst this; simp [Instr.sameBits]
 ok:=fun e a w=>run_checkKey_int h e 9999 a w
variable {κ:Type} {kt:TypeId}
def MapIs (K:Key P kt κ) (w:World) (b:Nat) (m:List (κ×Value)):Prop:= ∃es clock,w.heap[b]?=some (.map es clock)∧es.toList.map (fun e=>(e.key,e.val))=m.map fun p=>(K.enc p.1,p.2)
def mget (K:Key P kt κ) (m:List (κ×Value)) (k:κ):Option Value:=match m with
 | []=>none
 | (k',v)::m=>if K.eqb k k' then some v else mget K m k
def mput (K:Key P kt κ) (m:List (κ×Value)) (k:κ) (v:Value):List (κ×Value):=match m with
 | []=> [(k,v)]
 | (k',v')::m=>if K.eqb k k' then (k,v)::m else (k',v')::mput K m k v
theorem MapIs.lt {K:Key P kt κ} {b:Nat} {m:List (κ×Value)} (h:MapIs K w b m):b<w.heap.size:=by
 obtain ⟨es,cl,hh,_⟩:=h; exact (Array.getElem?_eq_some_iff.1 hh).1
theorem MapIs.kept {K:Key P kt κ} {b:Nat} {m:List (κ×Value)} {w':World} (h:MapIs K w b m) (hk:w'.heap[b]?=w.heap[b]?):MapIs K w' b m:=by
 obtain ⟨es,cl,hh,hm⟩:=h; exact ⟨es,cl,hk.trans hh,hm⟩
theorem MapIs.below {K:Key P kt κ} {b:Nat} {m:List (κ×Value)} {w':World} (h:MapIs K w b m) (hb:Below w.heap.size w w'):MapIs K w' b m:=h.kept (hb.block b h.lt)
theorem findNow_map (K:Key P kt κ) (k:κ): ∀(m:List (κ×Value)) (es:List MapEntry) (i:Nat),es.map (fun e=>(e.key,e.val))=m.map (fun p=>(K.enc p.1,p.2)) →
  ∃ r,Instr.findNow K.kd (K.enc k) es i=some r∧r.map (·.2)=mget K m k∧(r=none→ ∀p∈m,K.eqb k p.1=false) ∧
   ∀ j u,r=some (j,u)→ ∃j',j=i+j'∧j'<m.length∧(∀h:j'<m.length,K.eqb k (m[j'].1)=true)∧ ∀v:Value,mput K m k v=(m.take j')++(k,v)::m.drop (j'+1)
 | [],es,i,h=>by
  have:es= []:=by simpa using h
  subst this
  exact ⟨none,rfl,rfl,(fun _ p hp=>by simp at hp),(fun j u h=>by cases h)⟩
 | (k',v')::m,[],i,h=>by simp at h
 | (k',v')::m,e::es,i,h=>by
  simp only [List.map_cons,List.cons.injEq,Prod.mk.injEq] at h
  obtain ⟨⟨h1,h2⟩,h3⟩:=h
  simp only [Instr.findNow]
  rw [h1,K.same k k']
  cases hb:K.eqb k k' with
  | true =>
   refine ⟨some (i,e.val),rfl,by simp [mget,hb,h2],(fun h=>by cases h),fun j u hj=> ?_⟩
   simp only [Option.some.injEq,Prod.mk.injEq] at hj
   obtain ⟨rfl,rfl⟩:=hj
   exact ⟨0,rfl,by simp,fun _=>by simpa using hb,fun v=>by simp [mput,hb]⟩
  | false =>
   obtain ⟨r,hr,hg,hn,hs⟩:=findNow_map K k m es (i+1) h3
   refine ⟨r,hr,by simp [mget,hb,hg],fun h p hp=> ?_,fun j u hj=> ?_⟩
   ·simp at hp
    rcases hp with rfl|hp
    ·exact hb
    ·exact hn h p hp
   ·obtain ⟨j',h1,h2,h3,h4⟩:=hs j u hj
    exact ⟨j'+1,by omega,by simp; omega,fun hlt=>by simpa using h3 h2,fun v=>by simp [mput,hb,h4 v]⟩
theorem mput_new (K:Key P kt κ) {m:List (κ×Value)} {k:κ} (v:Value) (h: ∀p∈m,K.eqb k p.1=false):mput K m k v=m++ [(k,v)]:=by
 induction m with
 | nil=>rfl
 | cons p m ih=>obtain ⟨k',v'⟩:=p; simp [mput,h (k',v') (by simp),ih (fun q hq=>h q (by simp [hq]))]
theorem TW.makeMap {t:TypeId} (K:Key P kt κ) (hg:gu=none) (hd:okDst N d=true)
  (next: ∀b w',b=w.heap.size→w'.heap.size=b+1→Below w.heap.size w w'→MapIs K w' b []→TW P r Q N ds ops rest (ins E d none (.map (some b))) w'):TW P r Q N ds ops (⟨d,.makeMap t none,ty,pos,af,gu⟩::rest) E w :=
 TW.eff (v:= .map (some w.heap.size)) (w':=w.alloc (.map #[] 0)) hg hd rfl (fun a ha=>by simp [execOp,Instr.makeMap])
  (next _ _ rfl (by simp) ((Below.refl _ _).alloc (Nat.le_refl _) _) ⟨#[],0,heap_alloc_new w _,rfl⟩)
theorem run_lookup (K:Key P kt κ) {t et:TypeId} (ht:P.underlying t=some (.map kt et)) {zv:Value} (hz:(P.info? et).bind (·.zero)=some zv) {b:Nat} {m:List (κ×Value)} (hm:MapIs K w b m) (k:κ) :
  (Instr.lookup t (.map (some b)) (K.enc k) false).run P w= .ok ((mget K m k).getD zv) w:=by
 obtain ⟨es,cl,hh,he⟩:=hm
 obtain ⟨rr,hr,hg,_⟩:=findNow_map K k m es.toList 0 he
 cases hi:P.info? et with
 | none=>simp [hi] at hz
 | some i =>
  simp [hi] at hz
  have hobj:(getObj b).run P w= .ok (.map es cl) w:=by simp [getObj,Sem.run,hh]
  cases rr with
  | none =>
   simp at hg
   simp [Instr.lookup,run_underlying ht,hobj,K.ok,Instr.findKey,run_underlying K.und,hr,zeroValue,typeInfo,hi,hz,←hg]
  | some p =>
   obtain ⟨j,u⟩:=p
   simp at hg
   simp [Instr.lookup,run_underlying ht,hobj,K.ok,Instr.findKey,run_underlying K.und,hr,←hg]
theorem X.lookup (K:Key P kt κ) {t et:TypeId} {zv:Value} {b:Nat} {m:List (κ×Value)} {k:κ} (ht:P.underlying t=some (.map kt et)) (hz:(P.info? et).bind (·.zero)=some zv) (hx:ρ x= .map (some b)) (hy:ρ y=K.enc k) (hm:MapIs K w b m) :
  (execOp ρ ⟨d,.lookup t x y false,ty,pos,af,gu⟩).run P w= .ok (.value ((mget K m k).getD zv)) w:=by
 simp only [execOp]; rw [hx,hy]; simp [run_lookup K ht hz hm k]
theorem TW.lookup (K:Key P kt κ) {t et:TypeId} {zv v:Value} {b:Nat} {m:List (κ×Value)} (k:κ) (hg:gd ops E gu=some G) (hd:okDst N d=true) (ht:P.underlying t=some (.map kt et)) (hz:(P.info? et).bind (·.zero)=some zv)
  (hx:ev E x=some (cx,.map (some b))) (ix:Cnd G→Cnd cx) (hy:ev E y=some (cy,K.enc k)) (iy:Cnd G→Cnd cy) (hm:MapIs K w b m) (hv:(mget K m k).getD zv=v)
  (next:TW P r Q N ds ops rest (ins E d G v) w):TW P r Q N ds ops (⟨d,.lookup t x y false,ty,pos,af,gu⟩::rest) E w :=
 TW.val hg hd rfl (fun hG _ ha=>by rw [←hv]; exact X.lookup K ht hz (ha.eval hx (ix hG)) (ha.eval hy (iy hG)) hm) next
theorem TW.mapUpdate (K:Key P kt κ) {t et:TypeId} {b:Nat} {m:List (κ×Value)} (k:κ) {vz:Value} (hg:gu=none) (ht:P.underlying t=some (.map kt et))
  (hx:ev E x=some (none,.map (some b))) (hy:ev E y=some (none,K.enc k)) (hz:ev E z=some (none,vz)) (hm:MapIs K w b m)
  (next: ∀w',w'.heap.size=w.heap.size→w.grownBy w' (some b)→MapIs K w' b (mput K m k vz)→TW P r Q N ds ops rest E w'):TW P r Q N ds ops (⟨none,.mapUpdate t x y z,ty,pos,af,gu⟩::rest) E w:=by
 obtain ⟨es,cl,hh,he⟩:=id hm
 obtain ⟨rr,hr,hgt,hnone,hsome⟩:=findNow_map K k m es.toList 0 he
 have hlt:b<w.heap.size:=hm.lt
 have hobj:(getObj b).run P w= .ok (.map es cl) w:=by simp [getObj,Sem.run,hh]
 have hset: ∀o,(setObj b o).run P w= .ok () {w with heap:=w.heap.setIfInBounds b o}:=fun o=>by simp [setObj,Sem.run,hh]
 have fin: ∀(es':Array MapEntry) (cl':Nat),(Instr.mapUpdate t (.map (some b)) (K.enc k) vz).run P w= .ok () {w with heap:=w.heap.setIfInBounds b (.map es' cl')} →
   es'.toList.map (fun e=>(e.key,e.val))=(mput K m k vz).map (fun p=>(K.enc p.1,p.2))→TW P r Q N ds ops (⟨none,.mapUpdate t x y z,ty,pos,af,gu⟩::rest) E w:=by
  intro es' cl' hrun hes
  refine TW.eff0 (w':= {w with heap:=w.heap.setIfInBounds b (.map es' cl')}) hg rfl rfl (fun a ha=> ?_) (next _ (by simp) ⟨rfl,rfl,rfl,by simp,fun i hi hne=> ?_⟩ ⟨es',cl',by simp [hlt],hes⟩)
  ·simp only [execOp]; rw [ha.eval hx trivial,ha.eval hy trivial,ha.eval hz trivial]; simp [hrun]
  ·have:b≠i:=fun e=>hne (by rw [e])
   simp [Array.getElem?_setIfInBounds_ne this]
 cases rr with
 | none =>
  refine fin (es.push {key:=K.enc k,val:=vz,born:=cl}) (cl+1) ?_ ?_
  ·simp [Instr.mapUpdate,run_underlying ht,hobj,K.ok,Instr.findKey,run_underlying K.und,hr,hset]
  ·rw [mput_new K vz (hnone rfl)]; simp [he]
 | some p =>
  obtain ⟨j,u⟩:=p
  obtain ⟨j',h1,h2,h3,h4⟩:=hsome j u rfl
  simp only [Nat.zero_add] at h1
  subst h1
  have hlen:es.toList.length=m.length:=by have:=congrArg List.length he; simpa using this
  have hje:j<es.size:=by simpa using (show j<es.toList.length by omega)
  have hkey:es[j].key=K.enc (m[j].1):=by
   have:=congrArg (fun l=>l[j]?) he
   simp [hje,h2] at this
   exact this.1
  have hbits:=K.bits k (m[j].1) (h3 h2)
  refine fin (es.modify j fun e=> {e with key:=K.enc k,val:=vz}) cl ?_ ?_
  ·have hb2:Instr.sameBits 10000 (((es[j]?).map (·.key)).getD (K.enc k)) (K.enc k)=true:=by
    simp [hje,hkey,hbits]
   simp only [Instr.mapUpdate]
   simp [run_underlying ht,hobj,K.ok,Instr.findKey,run_underlying K.und,hr,Instr.keyThatStays,hje,hkey,hbits,hset]
  ·rw [h4 vz]
   apply List.ext_getElem?
   intro i
   have hi:=congrArg (fun l=>l[i]?) he
   simp only [List.getElem?_map] at hi
   simp only [List.getElem?_map,Array.getElem?_toList,Array.getElem?_modify]
   by_cases hij:j=i
   ·subst hij
    simp [hje,List.getElem?_append,Nat.min_eq_left (Nat.le_of_lt h2)]
   ·rw [if_neg hij]
    rcases Nat.lt_or_ge i j with hlt'|hge
    ·rw [List.getElem?_append_left (by simp; omega)]
     rw [List.getElem?_take_of_lt hlt']
     simpa using hi
    ·rw [List.getElem?_append_right (by simp; omega)]
     have e1:i-(m.take j).length=(i-j-1)+1:=by simp [Nat.min_eq_left (Nat.le_of_lt h2)]; omega
     rw [e1,List.getElem?_cons_succ,List.getElem?_drop]
     have e2:j+1+(i-j-1)=i:=by omega
     rw [e2]
     simpa using hi
def eqV:Value→Value→Bool
 | .int _ a,.int _ b=>a==b
 | .bool a,.bool b=>a==b
 | .string a,.string b=>a.toList==b.toList
 | _,_=>false
def fitV:TypeDesc→Value→Bool
 | .int k,.int k' _=>decide (k=k')
 | .bool,.bool _=>true
 | .string,.string _=>true
 | _,_=>false
def eqVs:List Value→List Value→Bool
 | [],[]=>true
 | x::xs,y::ys=>eqV x y&&eqVs xs ys
 | _,_=>false
def flatFs (P:Program):List Field→Nat→List Value→List Value→Bool
 | [],_,[],[]=>true
 | f::fs,i,x::xs,y::ys=>match P.underlying f.type with
  | some dsc=>Nat.beq f.offset i&&(f.name != "_") && fitV dsc x && fitV dsc y && flatFs P fs (i + 1) xs ys
  | none=>false
 | _,_,_,_=>false
theorem run_eqFields_flat (n:Nat) (X Y:Array Value): ∀(fs:List Field) (i:Nat) (xs ys:List Value),flatFs P fs i xs ys=true→(∀j v,xs[j]?=some v→X[i+j]?=some v)→(∀j v,ys[j]?=some v→Y[i+j]?=some v) →
  (Op.eqFields (n+1) X Y fs).run P w= .ok (eqVs xs ys) w
 | [],i,xs,ys,h,_,_=>by
  cases xs<;>cases ys<;>simp [flatFs] at h
  simp [Op.eqFields,eqVs]
 | f::fs,i,[],ys,h,_,_=>by simp [flatFs] at h
 | f::fs,i,x::xs,[],h,_,_=>by simp [flatFs] at h
 | f::fs,i,x::xs,y::ys,h,hX,hY=>by
  simp only [flatFs] at h
  split at h
  ·rename_i dsc hu
   simp only [Bool.and_eq_true] at h
   obtain ⟨⟨⟨⟨h1,h2⟩,h3⟩,h4⟩,h5⟩:=h
   have ho:f.offset=i:=Nat.eq_of_beq_eq_true h1
   have hname:f.name≠ "_" := by simpa using h2
   have ih:=run_eqFields_flat n X Y fs (i+1) xs ys h5 (fun j v hj=>by have:=hX (j+1) v (by simpa using hj); rwa [show i+(j+1)=i+1+j by omega] at this)
    (fun j v hj=>by have:=hY (j+1) v (by simpa using hj); rwa [show i+(j+1)=i+1+j by omega] at this)
   have hx0:X[f.offset]?=some x:=by rw [ho]; exact hX 0 x rfl
   have hy0:Y[f.offset]?=some y:=by rw [ho]; exact hY 0 y rfl
   have hagg:(isAgg f.type).run P w= .ok false w:=by
    cases dsc<;>first|(simp [fitV] at h3; done)|simp [isAgg,run_underlying hu]
   have hp1:(part f.type X f.offset).run P w= .ok x w:=by simp [part,hagg,hx0]
   have hp2:(part f.type Y f.offset).run P w= .ok y w:=by simp [part,hagg,hy0]
   have heq:(Op.equalIn (n+1) f.type x y).run P w= .ok (eqV x y) w:=by
    cases dsc<;>cases x<;>first|(simp [fitV] at h3; done)|skip
    all_goals cases y<;>first|(simp [fitV] at h4; done)|skip
    ·exact run_equalIn_bool w n _ _ _ hu
    ·rename_i k k1 a1 k2 a2
     have e1:k=k1:=of_decide_eq_true h3
     have e2:k=k2:=of_decide_eq_true h4
     subst e1; subst e2
     exact run_equalIn_int w n _ _ _ _ _ hu
    ·exact run_equalIn_string w n _ _ _ hu
   simp only [Op.eqFields,Sem.run_bind,Sem.run_ite,if_pos hname,hp1,hp2,heq,Result.andThen_ok]
   cases hb:eqV x y with
   | false=>simp [eqVs,hb]
   | true=>simp [eqVs,hb,ih]
  ·cases h
def flatT (P:Program) (t:TypeId) (xs ys:List Value):Bool:=match P.underlying t with
 | some (.struct fs)=> !P.stoodInHeld t&& !P.eqGuardType P.depth t&&flatFs P fs.toList 0 xs ys
 | _=>false
theorem run_equalIn_flat {t:TypeId} {xs ys:List Value} (h:flatT P t xs ys=true):(Op.equalIn 10000 t (.agg xs.toArray) (.agg ys.toArray)).run P w= .ok (eqVs xs ys) w∧P.eqGuardType P.depth t=false:=by
 unfold flatT at h
 split at h
 ·rename_i fs hu
  simp only [Bool.and_eq_true,Bool.not_eq_true'] at h
  obtain ⟨⟨h1,h2⟩,h3⟩:=h
  have hfo:P.fieldsOf t=fs:=by simp [Program.fieldsOf,hu]
  refine ⟨?_,h2⟩
  rw [show (10000:Nat)=9999+1 from rfl,run_equalIn_struct w 9999 t _ _ (by rw [hfo]; exact hu) h1,hfo]
  exact run_eqFields_flat 9998 _ _ fs.toList 0 xs ys h3 (fun j v hj=>by simpa using hj) (fun j v hj=>by simpa using hj)
 ·cases h
theorem X.eqlT {t t':TypeId} {xs ys:List Value} (h:flatT P t xs ys=true) (hx:ρ x= .agg xs.toArray) (hy:ρ y= .agg ys.toArray):(execOp ρ ⟨d,.binOp .eql t x y t',ty,pos,af,gu⟩).run P w= .ok (.value (.bool (eqVs xs ys))) w:=by
 obtain ⟨h1,h2⟩:=run_equalIn_flat (w:=w) h
 simp only [execOp]; rw [hx,hy]
 simp only [Sem.run_bind,run_eqGuard_agg w .eql t x y _ _ h2,Result.andThen_ok,run_eql_struct,h1,Sem.run_pure]
theorem X.neqT {t t':TypeId} {xs ys:List Value} (h:flatT P t xs ys=true) (hx:ρ x= .agg xs.toArray) (hy:ρ y= .agg ys.toArray):(execOp ρ ⟨d,.binOp .neq t x y t',ty,pos,af,gu⟩).run P w= .ok (.value (.bool (!eqVs xs ys))) w:=by
 obtain ⟨h1,h2⟩:=run_equalIn_flat (w:=w) h
 simp only [execOp]; rw [hx,hy]
 simp only [Sem.run_bind,run_eqGuard_agg w .neq t x y _ _ h2,Result.andThen_ok,run_neq_struct,h1,Sem.run_pure]
theorem TW.eqlT {t t':TypeId} {xs ys:List Value} (hg:gd ops E gu=some G) (hd:okDst N d=true) (hx:ev E x=some (cx,.agg xs.toArray)) (ix:Cnd G→Cnd cx) (hy:ev E y=some (cy,.agg ys.toArray)) (iy:Cnd G→Cnd cy) (h:flatT P t xs ys=true)
  (next:TW P r Q N ds ops rest (ins E d G (.bool (eqVs xs ys))) w):TW P r Q N ds ops (⟨d,.binOp .eql t x y t',ty,pos,af,gu⟩::rest) E w :=
 TW.val hg hd rfl (fun hG _ ha=>X.eqlT h (ha.eval hx (ix hG)) (ha.eval hy (iy hG))) next
theorem TW.neqT {t t':TypeId} {xs ys:List Value} (hg:gd ops E gu=some G) (hd:okDst N d=true) (hx:ev E x=some (cx,.agg xs.toArray)) (ix:Cnd G→Cnd cx) (hy:ev E y=some (cy,.agg ys.toArray)) (iy:Cnd G→Cnd cy) (h:flatT P t xs ys=true)
  (next:TW P r Q N ds ops rest (ins E d G (.bool (!eqVs xs ys))) w):TW P r Q N ds ops (⟨d,.binOp .neq t x y t',ty,pos,af,gu⟩::rest) E w :=
 TW.val hg hd rfl (fun hG _ ha=>X.neqT h (ha.eval hx (ix hG)) (ha.eval hy (iy hG))) next
theorem DW.eqlT {t t':TypeId} {xs ys:List Value} (hg:dgd ops D gu=some G) (hd:okDst N d=true) (hx:dev D x=some (cx,.ex (.agg xs.toArray))) (ix:Cnd G→Cnd cx) (hy:dev D y=some (cy,.ex (.agg ys.toArray))) (iy:Cnd G→Cnd cy) (h:flatT P t xs ys=true)
  (next:DW P N ds md ops w Fin rest (dins D d G (.ex (.bool (eqVs xs ys))))):DW P N ds md ops w Fin (⟨d,.binOp .eql t x y t',ty,pos,af,gu⟩::rest) D :=
 DW.val hg hd rfl (fun hG _ _ _ ha=>X.eqlT h (ha.eval (o:=⟨d,.binOp .eql t x y t',ty,pos,af,gu⟩) hx (by simp [Op.operands]) (ix hG)) (ha.eval (o:=⟨d,.binOp .eql t x y t',ty,pos,af,gu⟩) hy (by simp [Op.operands]) (iy hG))) next
theorem DW.neqT {t t':TypeId} {xs ys:List Value} (hg:dgd ops D gu=some G) (hd:okDst N d=true) (hx:dev D x=some (cx,.ex (.agg xs.toArray))) (ix:Cnd G→Cnd cx) (hy:dev D y=some (cy,.ex (.agg ys.toArray))) (iy:Cnd G→Cnd cy) (h:flatT P t xs ys=true)
  (next:DW P N ds md ops w Fin rest (dins D d G (.ex (.bool (!eqVs xs ys))))):DW P N ds md ops w Fin (⟨d,.binOp .neq t x y t',ty,pos,af,gu⟩::rest) D :=
 DW.val hg hd rfl (fun hG _ _ _ ha=>X.neqT h (ha.eval (o:=⟨d,.binOp .neq t x y t',ty,pos,af,gu⟩) hx (by simp [Op.operands]) (ix hG)) (ha.eval (o:=⟨d,.binOp .neq t x y t',ty,pos,af,gu⟩) hy (by simp [Op.operands]) (iy hG))) next
theorem TW.callF {f:Operand} {k:FuncId} {cap:List Value} {cf:Option Bool} {xs:List Operand} {vs:List Value} {ts:Array TypeId} {u:Value} (hg:gd ops E gu=some G) (hd:okDst N d=true) (he:enters P k=true)
  (hf:ev E f=some (cf,.func (.func k) #[] cap.toArray)) (jf:Cnd G→Cnd cf) (hv:Args N ds E G xs vs) (hc:Cnd G→Gives P k (vs++cap).toArray w fun v w'=>Below w.heap.size w w'∧v=u)
  (next: ∀w',Below w.heap.size w w'→TW P r Q N ds ops rest (ins E d G u) w'):TW P r Q N ds ops (⟨d,.call ⟨.value f,xs.toArray,ts⟩,ty,pos,af,gu⟩::rest) E w:=by
 intro a ha
 obtain ⟨h1,h2⟩:=wanted_of (o:=⟨d,.call ⟨.value f,xs.toArray,ts⟩,ty,pos,af,gu⟩) ha hg
 unfold wpListIn
 by_cases hcG:Cnd G
 ·rw [if_pos (h1 hcG)]
  refine ⟨fun _ _=>trivial,?_⟩
  rw [semAt_of rfl,X.call he (ha.eval hf (jf hcG)) (hv a ha hcG)]
  refine ⟨fun h=>by simp [Fence.wide] at h,?_⟩
  refine CallsIn.mono (callsIn_of (hc hcG)) ?_
  rintro e w' ⟨v,rfl,hb,rfl⟩
  exact next w' hb _ (ha.put hd (fun _=>rfl) (fun h=>absurd hcG h))
 ·rw [if_neg (by rw [h2 hcG]; simp)]
  exact ⟨fun _ _=>trivial,next w (Below.refl _ _) _ (ha.put hd (fun h=>absurd h hcG) (fun _=>rfl))⟩
end
end Go.PF
namespace Go.PF
open Go.RowKit
def ctl:Obj→Bool
 | .loop _| .deferred _| .mapIter .. | .stringIter .. =>true
 | _=>false
structure ExtF (n:Nat) (w w':World):Prop where
 os:w'.os=w.os
 tape:w'.tape=w.tape
 output:w'.output=w.output
 size:w.heap.size≤w'.heap.size
 block: ∀(k:Nat) (o:Obj),w.heap[k]?=some o→(k<n∨ctl o=false)→w'.heap[k]?=some o
theorem ExtF.refl (n:Nat) (w:World):ExtF n w w:=⟨rfl,rfl,rfl,Nat.le_refl _,fun _ _ h _=>h⟩
theorem ExtF.trans {n:Nat} {a b c:World} (h:ExtF n a b) (k:ExtF n b c):ExtF n a c :=
 ⟨k.os.trans h.os,k.tape.trans h.tape,k.output.trans h.output,Nat.le_trans h.size k.size,fun i o ho hc=>k.block i o (h.block i o ho hc) hc⟩
theorem ExtF.less {n n':Nat} {a b:World} (h:ExtF n' a b) (hn:n≤n'):ExtF n a b :=
 ⟨h.os,h.tape,h.output,h.size,fun i o ho hc=>h.block i o ho (hc.imp (fun h=>by omega) id)⟩
theorem ExtF.of_below {n:Nat} {a b:World} (h:Below a.heap.size a b):ExtF n a b :=
 ⟨h.os,h.tape,h.output,h.size,fun i o ho _=>(h.block i (Array.getElem?_eq_some_iff.1 ho).1).trans ho⟩
theorem ExtF.putObj {n l:Nat} {w:World} {o o':Obj} (h:w.heap[l]?=some o) (hc:ctl o=true) (hn:n≤l):ExtF n w (w.putObj l o'):=by
 refine ⟨rfl,rfl,rfl,by simp [World.putObj],fun k p hp hk=> ?_⟩
 by_cases e:l=k
 ·subst e
  rw [h] at hp
  simp only [Option.some.injEq] at hp
  subst hp
  rcases hk with hk|hk
  ·omega
  ·rw [hc] at hk; cases hk
 ·exact (World.putObj_heap_other (by omega)).trans hp
theorem ExtF.below {n:Nat} {w0 w w':World} (h:Below n w0 w) (k:ExtF n w w') (hn:n≤w0.heap.size):Below n w0 w' :=
 ⟨k.os.trans h.os,k.tape.trans h.tape,k.output.trans h.output,Nat.le_trans h.size k.size,fun i hi=>by
  have hb:=h.block i hi
  have hlt:i<w0.heap.size:=by omega
  have e:w0.heap[i]?=some w0.heap[i]:=Array.getElem?_eq_getElem hlt
  rw [e] at hb ⊢
  exact k.block i _ hb (.inl hi)⟩
theorem ExtF.kept {n:Nat} {F:Nat→Prop} {w w':World} (k:ExtF n w w'):Kept F w w':=fun p v _ hc=>by
 unfold World.cell? at hc ⊢
 split at hc
 ·rename_i c e fr hb
  rw [k.block _ _ hb (.inr rfl)]
  exact hc
 ·cases hc
theorem Blk.ext {n:Nat} {w w':World} {g:Nat} {t:TypeId} {cs:List Value} (h:Blk w g t cs) (k:ExtF n w w'):Blk w' g t cs:=k.block g _ h (.inr rfl)
theorem SL.ext {α:Type} {T:Ty α} {n:Nat} {F:Nat→Prop} {w w':World} {v:Value} {l:List α} (h:SL T F w v l) (k:ExtF n w w'):SL T F w' v l:=h.mono k.kept
theorem OwnS.ext {m:Nat} {w w':World} {e:TypeId} {sz n:Nat} {v:Value} {xs:List Value} (h:OwnS w e sz v n xs) (k:ExtF m w w'):OwnS w' e sz v n xs:=by
 refine ⟨h.1,?_⟩
 rcases h.2 with h2|⟨g,cap,cur,hv,hg,hh,hr⟩
 ·exact .inl h2
 ·exact .inr ⟨g,cap,cur,hv,hg,k.block g _ hh (.inr rfl),hr⟩
theorem MapIs.ext {P:Program} {kt:TypeId} {κ:Type} {K:Key P kt κ} {n:Nat} {w w':World} {b:Nat} {m:List (κ×Value)} (h:MapIs K w b m) (k:ExtF n w w'):MapIs K w' b m:=by
 obtain ⟨es,cl,hh,he⟩:=h
 exact ⟨es,cl,k.block b _ hh (.inr rfl),he⟩
def Yields (P:Program) (l:Nat) (args:Array Value) (W:World) (R:Bool→World→Prop):Prop :=
 ∃ fn tmps assign body,(Instr.yield l args).run P W= .ok (.round l fn tmps assign body) W∧RoundIn (FR none) 0 P l fn tmps assign body W (fun e W'=> ∃b,e= .returned (.bool b)∧R b W')
theorem Yields.mono {P:Program} {l:Nat} {args:Array Value} {W:World} {R R':Bool→World→Prop} (h:Yields P l args W R) (hr: ∀b W',R b W'→R' b W'):Yields P l args W R':=by
 obtain ⟨fn,tmps,assign,body,h1,h2⟩:=h
 exact ⟨fn,tmps,assign,body,h1,h2.mono fun e W' ⟨b,he,hR⟩=>⟨b,he,hr b W' hR⟩⟩
structure Rnd {α:Type} (l:Nat) (J Jx:List α→(Nat→Prop)→World→Prop) (pre:List α) (M:Nat→Prop) (W:World) (b:Bool) (W':World):Prop where
 size:W.heap.size≤W'.heap.size
 kept: ∀k,k<W.heap.size→ ¬M k→k≠l→W'.heap[k]?=W.heap[k]?
 yes:b=true→ ∃M',J pre M' W'∧ ∀k,M' k→(M k∨W.heap.size≤k)∧k<W'.heap.size
 no:b=false→ ∃M',Jx pre M' W'
def IterOK {α:Type} (P:Program) (gf:FuncId) (cap:List Value) (enc:α→List Value) (Pos:List α→α→Prop) (Done:List α→Prop) (own:Nat→Prop) (w0:World):Prop :=
 ∀ (l:Nat) (J Jx:List α→(Nat→Prop)→World→Prop) (W:World) (M:Nat→Prop),
  (∀k,own k→k<w0.heap.size→W.heap[k]?=w0.heap[k]?)→w0.heap.size≤W.heap.size→l<W.heap.size→(∀k,own k→ ¬M k∧k≠l)→(∀k,M k→k<W.heap.size) →
  (∀pre M W1 W2,J pre M W1→ExtF W.heap.size W1 W2→J pre M W2)→(∀pre M W1 W2,Jx pre M W1→ExtF W.heap.size W1 W2→Jx pre M W2) →
  (∀pre x M W1,J pre M W1→Pos pre x→(∀k,M k→k<W1.heap.size)→l<W1.heap.size→Yields P l (enc x).toArray W1 (Rnd l J Jx (pre++ [x]) M W1)) →
  J [] M W →
  Gives P gf (.func (.yield l) #[] #[]::cap).toArray W fun _ W'=>(∃xs M',Done xs∧J xs M' W')∨(∃pre M',Jx pre M' W')
section
variable {P:Program} {r:Option Nat} {Q:Exit→Act→World→Prop} {N:Nat} {ds:List Deferred} {ops rest:List Oper} {E:Env} {w:World} {G:Option Bool}
variable {d:Option Tmp} {ty:TypeId} {pos:String} {af:Array Edge} {gu:Option (Nat×Bool)}
theorem TW.yield {f:Operand} {l:Nat} {xs:List Operand} {vs:List Value} {ts:Array TypeId} {R:Bool→World→Prop} (hg:gu=none) (hd:okDst N d=true) (hf:ev E f=some (none,.func (.yield l) #[] #[])) (hv:Args N ds E none xs vs)
  (hy:Yields P l vs.toArray w R) (next: ∀b w',R b w'→TW P r Q N ds ops rest (ins E d none (.bool b)) w'):TW P r Q N ds ops (⟨d,.call ⟨.value f,xs.toArray,ts⟩,ty,pos,af,gu⟩::rest) E w:=by
 intro a ha
 obtain ⟨fn,tmps,assign,body,h1,h2⟩:=hy
 unfold wpListIn
 rw [if_pos (by simp [Region.wanted,hg])]
 refine ⟨fun _ _=>trivial,?_⟩
 have hrun:(execOp a.eval ⟨d,.call ⟨.value f,xs.toArray,ts⟩,ty,pos,af,gu⟩).run P w= .ok (.round l fn tmps assign body) w:=by
  simp [execOp,resolve,ha.eval hf trivial,hv a ha trivial,Deferred.ofValue,invoke,h1]
 rw [semAt_of rfl,hrun]
 refine ⟨fun h=>by simp [Fence.wide] at h,?_⟩
 have h3:RoundIn (FR r) (0-1) P l fn tmps assign body w (fun e W'=> ∃b,e= .returned (.bool b)∧R b W'):=h2
 refine h3.mono ?_
 rintro e W' ⟨b,rfl,hR⟩
 exact next b W' hR _ (ha.put hd (fun _=>rfl) (fun h=>absurd trivial h))
def insP (E:Env):List Tmp→List Value→Env
 | t::ts,v::vs=>insP ((t,none,v)::E) ts vs
 | _,_=>E
theorem fit_insP: ∀(ts:List Tmp) (vs:List Value) (E:Env) (tmps:Array Value),Fit N [] E {tmps:=tmps,defers:= []}→ts.all (fun t=>Nat.blt t N)=true →
  Fit N [] (insP E ts vs) {tmps:=(ts.zip vs).foldl (fun t (p,v)=>t.setIfInBounds p v) tmps,defers:= []}
 | [],vs,E,tmps,h,_=>by simpa [insP] using h
 | t::ts,[],E,tmps,h,_=>by simpa [insP] using h
 | t::ts,v::vs,E,tmps,h,ht=>by
  simp only [List.all_cons,Bool.and_eq_true] at ht
  simp only [insP,List.zip_cons_cons,List.foldl_cons]
  exact fit_insP ts vs _ _ (h.put (d:=some t) (c:=none) (v:=v) (u:=v) ht.1 (fun _=>rfl) (fun h=>absurd trivial h)) ht.2
def RecIs (N:Nat) (E:Env) (ps:List Tmp) (assign body:Code) (D:Nat) (W:World) (L:Nat) (st:LoopState) (pe:Option Code):Prop :=
 ∃ fn tmps,Fit N [] E {tmps:=tmps,defers:= []}∧W.heap[L]?=some (.loop {state:=st,pending:=pe,fn:=fn,tmps:=tmps,params:=ps.toArray,assign:=assign,body:=body,defers:=D})
def rndPost (P:Program) (L:Nat) (R:Bool→World→Prop):Exit→Act→World→Prop:=roundPost P L (fun e W'=> ∃b,e= .returned (.bool b)∧R b W')
theorem Yields.of_round {ps:List Tmp} {assign body:Code} {D L:Nat} {W:World} {vs:List Value} {R:Bool→World→Prop} (hr:RecIs N E ps assign body D W L .ready none) (hl:vs.length=ps.length) (hps:ps.all (fun t=>Nat.blt t N)=true)
  (h:CW P (some L) (Exit.then (fun a1 W1=> ∃W2,(Instr.beginRound L).run P W1= .ok () W2∧body.wpIn (FR (some L)) 0 P (rndPost P L R) a1 W2) (fun _ _ _=>False)) N [] assign (insP E ps vs) W):Yields P L vs.toArray W R:=by
 obtain ⟨fn,tmps,hf,hh⟩:=hr
 refine ⟨fn,_,assign,body,run_yield hh (by simpa using hl),?_⟩
 refine roundIn_of_wpIn trivial ?_
 have:=h _ (fit_insP ps vs E tmps hf hps)
 have e:(ps.toArray.zip vs.toArray).foldl (fun tmps (t,a)=>tmps.setIfInBounds t a) tmps=(ps.zip vs).foldl (fun t (p,v)=>t.setIfInBounds p v) tmps:=by simp
 rw [e]
 exact this
theorem KW.begin {ps:List Tmp} {assign body:Code} {D L:Nat} {W:World} {E':Env} {R:Bool→World→Prop} (hr:RecIs N E ps assign body D W L .ready none)
  (h: ∀W2,ExtF L W W2→W2.heap.size=W.heap.size→(∀k,k≠L→W2.heap[k]?=W.heap[k]?)→RecIs N E ps assign body D W2 L .busy none→CW P (some L) (rndPost P L R) N [] body E' W2) :
  KW N [] (Exit.then (fun a1 W1=> ∃W2,(Instr.beginRound L).run P W1= .ok () W2∧body.wpIn (FR (some L)) 0 P (rndPost P L R) a1 W2) (fun _ _ _=>False) .normal) E' W:=by
 intro a ha
 obtain ⟨fn,tmps,hf,hh⟩:=hr
 refine ⟨_,run_beginRound hh rfl,?_⟩
 have hlt:L<W.heap.size:=(Array.getElem?_eq_some_iff.1 hh).1
 exact h _ (ExtF.putObj hh rfl (Nat.le_refl _)) (by simp [World.putObj]) (fun k hk=>World.putObj_heap_other hk) ⟨fn,tmps,hf,World.putObj_heap_same hlt⟩ a ha
theorem KW.endN {ps:List Tmp} {assign body:Code} {D L:Nat} {W:World} {E':Env} {R:Bool→World→Prop} {st:LoopState} {pe:Option Code} (hr:RecIs N E ps assign body D W L st pe)
  (h: ∀W2,ExtF L W W2→W2.heap.size=W.heap.size→(∀k,k≠L→W2.heap[k]?=W.heap[k]?)→RecIs N E ps assign body D W2 L .ready none→R true W2):KW N [] (rndPost P L R .normal) E' W:=by
 intro a _
 obtain ⟨fn,tmps,hf,hh⟩:=hr
 have hlt:L<W.heap.size:=(Array.getElem?_eq_some_iff.1 hh).1
 exact ⟨_,_,run_endRound none hh,true,rfl,h _ (ExtF.putObj hh rfl (Nat.le_refl _)) (by simp [World.putObj]) (fun k hk=>World.putObj_heap_other hk) ⟨fn,tmps,hf,World.putObj_heap_same hlt⟩⟩
theorem KW.endR {ps:List Tmp} {assign body:Code} {D L:Nat} {W:World} {E':Env} {R:Bool→World→Prop} {st:LoopState} {pe:Option Code} (hr:RecIs N E ps assign body D W L st pe)
  (h: ∀W2,ExtF L W W2→W2.heap.size=W.heap.size→(∀k,k≠L→W2.heap[k]?=W.heap[k]?)→RecIs N E ps assign body D W2 L .done (some .ret)→R false W2):KW N [] (rndPost P L R .ret) E' W:=by
 intro a _
 obtain ⟨fn,tmps,hf,hh⟩:=hr
 have hlt:L<W.heap.size:=(Array.getElem?_eq_some_iff.1 hh).1
 exact ⟨_,_,run_endRound (some .ret) hh,false,rfl,h _ (ExtF.putObj hh rfl (Nat.le_refl _)) (by simp [World.putObj]) (fun k hk=>World.putObj_heap_other hk) ⟨fn,tmps,hf,World.putObj_heap_same hlt⟩⟩
theorem RecIs.ext {ps:List Tmp} {assign body:Code} {D L:Nat} {W W':World} {st:LoopState} {pe:Option Code} {n:Nat} (hr:RecIs N E ps assign body D W L st pe) (h:ExtF n W W') (hn:L<n):RecIs N E ps assign body D W' L st pe:=by
 obtain ⟨fn,tmps,hf,hh⟩:=hr
 exact ⟨fn,tmps,hf,h.block L _ hh (.inl hn)⟩
theorem RecIs.kept {ps:List Tmp} {assign body:Code} {D L:Nat} {W W':World} {st:LoopState} {pe:Option Code} (hr:RecIs N E ps assign body D W L st pe) (h:W'.heap[L]?=W.heap[L]?):RecIs N E ps assign body D W' L st pe:=by
 obtain ⟨fn,tmps,hf,hh⟩:=hr
 exact ⟨fn,tmps,hf,h.trans hh⟩
theorem RecIs.lt {ps:List Tmp} {assign body:Code} {D L:Nat} {W:World} {st:LoopState} {pe:Option Code} (hr:RecIs N E ps assign body D W L st pe):L<W.heap.size:=by
 obtain ⟨fn,tmps,hf,hh⟩:=hr
 exact (Array.getElem?_eq_some_iff.1 hh).1
theorem CW.range {α:Type} {g:Operand} {ps:List Tmp} {assign body:Code} {gf:FuncId} {cap:List Value} {enc:α→List Value} {Pos:List α→α→Prop} {Done:List α→Prop} {own:Nat→Prop}
  (hg:ev E g=some (none,.func (.func gf) #[] cap.toArray)) (he:enters P gf=true) (hit:IterOK P gf cap enc Pos Done own w) (hps:ps.all (fun t=>Nat.blt t N)=true) (hlen: ∀x,(enc x).length=ps.length)
  (J:List α→(Nat→Prop)→World→Prop) (Jx:Code→List α→(Nat→Prop)→World→Prop) (M:Nat→Prop) (hM: ∀k,M k→k<w.heap.size∧ ¬own k) (hown: ∀k,own k→k<w.heap.size)
  (hJ: ∀pre M W1 W2,J pre M W1→ExtF w.heap.size W1 W2→J pre M W2) (hJx: ∀c pre M W1 W2,Jx c pre M W1→ExtF w.heap.size W1 W2→Jx c pre M W2) (h0:J [] M w)
  (round: ∀D L pre x M W,w.heap.size≤D→D<L→J pre M W→Pos pre x→(∀k,M k→k<W.heap.size)→ ¬M L→ ¬M D→RecIs N E ps assign body D W L .ready none →
   CW P (some L) (Exit.then (fun a1 W1=> ∃W2,(Instr.beginRound L).run P W1= .ok () W2 ∧
    body.wpIn (FR (some L)) 0 P (rndPost P L (Rnd L (fun pre M' W'=>J pre M' W'∧ ¬M' L∧ ¬M' D∧RecIs N E ps assign body D W' L .ready none) (fun pre M' W'=> ∃c,Jx c pre M' W'∧RecIs N E ps assign body D W' L .done (some c)) (pre++ [x]) M W)) a1 W2) (fun _ _ _=>False)) N [] assign (insP E ps (enc x)) W)
  (done: ∀D xs M W,w.heap.size≤D→Done xs→J xs M W→W.heap[D]?=some (.deferred (some []))→KW N ({target:= .collected D,args:= #[]}::ds) (Q .normal) E W)
  (stop: ∀D c pre M W,w.heap.size≤D→Jx c pre M W→W.heap[D]?=some (.deferred (some []))→CW P none Q N ({target:= .collected D,args:= #[]}::ds) c E W) :
  CW P none Q N ds (.rangeFunc g ps.toArray assign body) E w:=by
 intro a ha
 refine wpIn_rangeFunc fun fn _=> ?_
 obtain ⟨W1,hW1⟩: ∃W1,(w.alloc (.deferred (some []))).alloc (.loop {state:= .ready,pending:=none,fn:=fn,tmps:=a.tmps,params:=ps.toArray,assign:=assign,body:=body,defers:=w.heap.size})=W1:=⟨_,rfl⟩
 have hsz:W1.heap.size=w.heap.size+2:=by rw [←hW1]; simp
 have hL1:W1.heap[w.heap.size+1]?=some (.loop {state:= .ready,pending:=none,fn:=fn,tmps:=a.tmps,params:=ps.toArray,assign:=assign,body:=body,defers:=w.heap.size}):=by
  rw [←hW1]; have:=World.alloc_heap_new (w.alloc (.deferred (some []))) (.loop {state:= .ready,pending:=none,fn:=fn,tmps:=a.tmps,params:=ps.toArray,assign:=assign,body:=body,defers:=w.heap.size}); rwa [World.size_alloc] at this
 have hD1:W1.heap[w.heap.size]?=some (.deferred (some [])):=by
  rw [←hW1]; exact (Below.heap_alloc _ _ _ (by simp)).trans (World.alloc_heap_new w _)
 have hb1:Below w.heap.size w W1:=by
  rw [←hW1]; exact ((Below.refl _ w).alloc (Nat.le_refl _) _).alloc (by simp) _
 have hrec:RecIs N E ps assign body w.heap.size W1 (w.heap.size+1) .ready none:=⟨fn,a.tmps,⟨ha.size,rfl,ha.slots⟩,hL1⟩
 let J':List α→(Nat→Prop)→World→Prop:=fun pre M W=>(J pre M W∧ ¬M (w.heap.size+1)∧ ¬M w.heap.size∧RecIs N E ps assign body w.heap.size W (w.heap.size+1) .ready none)∧W.heap[w.heap.size]?=some (.deferred (some []))
 let Jx':List α→(Nat→Prop)→World→Prop:=fun pre M W=>(∃c,Jx c pre M W∧RecIs N E ps assign body w.heap.size W (w.heap.size+1) .done (some c))∧W.heap[w.heap.size]?=some (.deferred (some []))
 have hM': ∀k,M k→k<w.heap.size:=fun k hk=>(hM k hk).1
 have hgives:=hit (w.heap.size+1) J' Jx' W1 M (fun k hk hlt=>hb1.block k hlt) (by omega) (by omega)
  (fun k hk=>⟨fun hm=>(hM k hm).2 hk,by have:=hown k hk; omega⟩) (fun k hk=>by have:=hM' k hk; omega)
  (fun pre M Wa Wb ⟨⟨h1,h2,h3,h4⟩,h5⟩ hx=>⟨⟨hJ _ _ _ _ h1 (hx.less (by omega)),h2,h3,h4.ext hx (by omega)⟩,hx.block _ _ h5 (.inl (by omega))⟩)
  (fun pre M Wa Wb ⟨⟨c,h1,h2⟩,h5⟩ hx=>⟨⟨c,hJx _ _ _ _ _ h1 (hx.less (by omega)),h2.ext hx (by omega)⟩,hx.block _ _ h5 (.inl (by omega))⟩)
  (fun pre x M2 Wa ⟨⟨h1,h2,h3,h4⟩,h5⟩ hpos hMlt hlt=>by
   have hy:=Yields.of_round (P:=P) (R:=Rnd (w.heap.size+1) (fun pre M' W'=>J pre M' W'∧ ¬M' (w.heap.size+1)∧ ¬M' w.heap.size∧RecIs N E ps assign body w.heap.size W' (w.heap.size+1) .ready none) (fun pre M' W'=> ∃c,Jx c pre M' W'∧RecIs N E ps assign body w.heap.size W' (w.heap.size+1) .done (some c)) (pre++ [x]) M2 Wa) (vs:=enc x) h4 (hlen x) hps
    (round w.heap.size (w.heap.size+1) pre x M2 Wa (Nat.le_refl _) (by omega) h1 hpos hMlt h2 h3 h4)
   refine hy.mono fun b W' hR=>⟨hR.size,hR.kept,fun hb=> ?_,fun hb=> ?_⟩
   ·obtain ⟨M',hj,hm⟩:=hR.yes hb
    exact ⟨M',⟨hj,(hR.kept _ (by omega) h3 (by omega)).trans h5⟩,hm⟩
   ·obtain ⟨M',hj⟩:=hR.no hb
    exact ⟨M',hj,(hR.kept _ (by omega) h3 (by omega)).trans h5⟩)
  ⟨⟨hJ _ _ _ _ h0 (.of_below hb1),fun hm=>by have:=hM' _ hm; omega,fun hm=>by have:=hM' _ hm; omega,hrec⟩,hD1⟩
 refine ⟨w.heap.size+1,[{target:= .collected w.heap.size,args:= #[]}],W1,{target:= .fn (.func gf) cap.toArray,args:= #[.func (.yield (w.heap.size+1)) #[] #[]]},W1,gf,
  (.func (.yield (w.heap.size+1)) #[] #[]::cap).toArray,W1,?_,?_,fun _ _=>trivial,?_,fun h=>by simp [Fence.wide] at h,?_⟩
 ·rw [←hW1]; exact run_enterLoop_outer _ _ _ _ _
 ·simp only [resolve,ha.eval hg trivial]
  simp [Deferred.ofValue,Act.eval]
 ·simp [invoke,run_enters he]
 ·refine CallsIn.mono (callsIn_of hgives) ?_
  rintro e W2 ⟨v,rfl,hR⟩
  rcases hR with ⟨xs,M',hdone,⟨h1,h2,h3,fn',tmps',hf',hh'⟩,h5⟩|⟨pre,M',⟨c,h1,fn',tmps',hf',hh'⟩,h5⟩
  ·have hlt:w.heap.size+1<W2.heap.size:=(Array.getElem?_eq_some_iff.1 hh').1
   refine ⟨_,_,run_endLoop hh' (by simp),?_⟩
   refine done w.heap.size xs M' _ (Nat.le_refl _) hdone (hJ _ _ _ _ h1 (ExtF.putObj hh' rfl (by omega))) ((World.putObj_heap_other (by omega)).trans h5) _ ⟨ha.size,by simp [ha.defers],ha.slots⟩
  ·have hlt:w.heap.size+1<W2.heap.size:=(Array.getElem?_eq_some_iff.1 hh').1
   refine ⟨_,_,run_endLoop hh' (by simp),?_⟩
   exact stop w.heap.size c pre M' _ (Nat.le_refl _) (hJx _ _ _ _ _ h1 (ExtF.putObj hh' rfl (by omega))) ((World.putObj_heap_other (by omega)).trans h5) _ ⟨ha.size,by simp [ha.defers],ha.slots⟩
variable {fn:Func} {R:Value→World→Prop}
theorem retM {D:Nat} {v:Value} (hres: ∀(a:Act) (W:World),Fit N ({target:= .collected D,args:= #[]}:: []) E a→W=w.putObj D (.deferred none)→(results fn a.tmps).run P W= .ok v W) (hD:w.heap[D]?=some (.deferred (some [])))
  (hR:R v (w.putObj D (.deferred none))) (e:Exit) (he:e= .ret∨e= .normal):KW N ({target:= .collected D,args:= #[]}:: []) (bodyPostM (FR none) 0 P fn (fun e w'=> ∃v,e= .returned v∧R v w') e) E w:=by
 intro a ha
 have key:LeavesInM (FR none) 0 P fn a.tmps (fun e w'=> ∃v,e= .returned v∧R v w') a.defers .returning w:=by
  rw [ha.defers]
  refine ⟨by simp,.inl ⟨D,_,rfl,run_takeDeferred hD,?_⟩⟩
  exact ⟨v,hres a _ ha rfl,v,rfl,hR⟩
 rcases he with rfl|rfl
 ·exact key
 ·exact key
theorem ret1M0 {s:Nat} {v:Value} (hres:fn.results= #[.tmp s]) (hs:look E s=some (none,v)) (hR:R v w):KW N [] (bodyPostM (FR none) 0 P fn (fun e w'=> ∃v,e= .returned v∧R v w') .ret) E w:=by
 intro a ha
 have key:LeavesInM (FR none) 0 P fn a.tmps (fun e w'=> ∃v,e= .returned v∧R v w') a.defers .returning w:=by
  rw [ha.defers]
  exact ⟨v,by rw [results_tmp hres a.tmps P w,(ha.slots s none v hs).1 trivial],v,rfl,hR⟩
 exact key
theorem ret1M {D s:Nat} {v:Value} (hres:fn.results= #[.tmp s]) (hs:look E s=some (none,v)) (hD:w.heap[D]?=some (.deferred (some []))) (hR:R v (w.putObj D (.deferred none))) :
  KW N ({target:= .collected D,args:= #[]}:: []) (bodyPostM (FR none) 0 P fn (fun e w'=> ∃v,e= .returned v∧R v w') .ret) E w :=
 retM (fun a W ha _=>by rw [results_tmp hres a.tmps P W,(ha.slots s none v hs).1 trivial]) hD hR .ret (.inl rfl)
end
end Go.PF
namespace Go.PF
open Go.RowKit
variable {α:Type}
theorem add_add (a:Addr) (i j:Nat):(a.add i).add j=a.add (i+j):=by
 unfold Addr.add
 by_cases hi:i=0<;>by_cases hj:j=0<;>simp [hi,hj,Nat.add_assoc]
theorem flat_at (f:α→List Value) (n:Nat): ∀(l:List α),(∀x∈l,(f x).length=n)→ ∀(i j:Nat) (x:α),l[i]?=some x→j<n→(l.flatMap f)[i*n+j]?=(f x)[j]?
 | [],_,i,j,x,hx,_=>by simp at hx
 | y::l,h,0,j,x,hx,hj=>by
  simp at hx
  subst hx
  rw [List.flatMap_cons,List.getElem?_append_left (by rw [h y (by simp)]; omega)]
  simp
 | y::l,h,i+1,j,x,hx,hj=>by
  simp at hx
  rw [List.flatMap_cons,List.getElem?_append_right (by rw [h y (by simp),Nat.succ_mul]; omega),h y (by simp)]
  have:(i+1)*n+j-n=i*n+j:=by rw [Nat.succ_mul]; omega
  rw [this]
  exact flat_at f n l (fun z hz=>h z (by simp [hz])) i j x hx hj
theorem flat_len (f:α→List Value) (n:Nat): ∀(l:List α),(∀x∈l,(f x).length=n)→(l.flatMap f).length=l.length*n
 | [],_=>by simp
 | y::l,h=>by
  rw [List.flatMap_cons,List.length_append,h y (by simp),flat_len f n l (fun z hz=>h z (by simp [hz])),List.length_cons,Nat.succ_mul]
  omega
theorem flat_inv (f:α→List Value) (n:Nat) (hn:0<n) (l:List α) (h: ∀x∈l,(f x).length=n) (j:Nat) (u:Value) (hj:(l.flatMap f)[j]?=some u): ∃x,l[j / n]?=some x∧(f x)[j%n]?=some u:=by
 have hlt:j<l.length*n:=by rw [←flat_len f n l h]; exact (List.getElem?_eq_some_iff.1 hj).1
 have hd:j / n<l.length:=(Nat.div_lt_iff_lt_mul hn).2 hlt
 refine ⟨l[j / n],List.getElem?_eq_getElem hd,?_⟩
 rw [←flat_at f n l h (j / n) (j%n) l[j / n] (List.getElem?_eq_getElem hd) (Nat.mod_lt _ hn)]
 rw [←hj]
 congr 1
 rw [Nat.mul_comm]
 exact Nat.div_add_mod j n
theorem OwnS.toSL {T:Ty α} {F:Nat→Prop} {w:World} {e:TypeId} {v:Value} {l:List α} (f:α→List Value) (hf: ∀x∈l,T.rep F w (f x) x) (h:OwnS w e T.n v l.length (l.flatMap f)) (hF: ∀g,v.ownBlock=some g→F g) (hn:l.length≤9223372036854775807):SL T F w v l:=by
 obtain ⟨A,cap,hv,h1,h2,h3⟩:=h.form
 refine ⟨A,cap,hv,h1,hn,fun i x hx=> ?_⟩
 have hmem:x∈l:=List.mem_of_getElem? hx
 have hlen: ∀y∈l,(f y).length=T.n:=fun y hy=>T.len _ _ _ _ (hf y hy)
 have hrep:=hf x hmem
 rcases Nat.eq_zero_or_pos T.n with h0|h0
 ·-- no cells at all
  have hil:i<l.length:=(List.getElem?_eq_some_iff.1 hx).1
  rcases h.2 with ⟨rfl,hl⟩|⟨g,cap',cur,hv',_,_,_⟩
  ·omega
  ·rw [hv'] at hv
   simp only [Value.slice.injEq] at hv
   obtain ⟨rfl,_,_⟩:=hv
   refine ⟨⟨g,0,none⟩,f x,rfl,hF g (by rw [hv']; rfl),fun j u hj=> ?_,hrep⟩
   have:(f x).length=0:=by rw [hlen x hmem,h0]
   rw [List.eq_nil_of_length_eq_zero this] at hj
   simp at hj
 ·obtain ⟨u0,hu0⟩: ∃u,(f x)[0]?=some u:=⟨_,List.getElem?_eq_getElem (by rw [hlen x hmem]; exact h0)⟩
  have h00:=flat_at f T.n l hlen i 0 x hx h0
  rw [hu0] at h00
  obtain ⟨g,hA,hown,_⟩:=h3 _ _ h00
  refine ⟨⟨g,0,none⟩,f x,hA,hF g hown,fun j u hj=> ?_,hrep⟩
  have hjn:j<T.n:=by rw [←hlen x hmem]; exact (List.getElem?_eq_some_iff.1 hj).1
  obtain ⟨g',hA',_,hc,_⟩:=h3 (i*T.n+j) u (by rw [flat_at f T.n l hlen i j x hx hjn]; exact hj)
  rw [hA] at hA'
  simp only [Option.some.injEq,Addr.mk.injEq] at hA'
  obtain ⟨rfl,_,_⟩:=hA'
  rw [add_add]
  have e1:Addr.add ⟨g,0,none⟩ (i*T.n+j)=⟨g,i*T.n+j,none⟩:=by unfold Addr.add; split<;>simp_all
  rw [e1]
  exact hc
theorem SL.cells {T:Ty α} {F:Nat→Prop} {w:World} {A:Option Addr} {n cap:Nat} {l:List α} (f:α→List Value) (hf: ∀F w cs x,T.rep F w cs x→cs=f x) (h0:0<T.n) (h:SL T F w (.slice A n cap) l) (hlen: ∀x∈l,(f x).length=T.n) :
  ∀ j u,(l.flatMap f)[j]?=some u→ ∃ad,A=some ad∧w.cell? (ad.add j)=some u:=by
 intro j u hj
 obtain ⟨A',cap',hv,_,_,h3⟩:=h
 simp only [Value.slice.injEq] at hv
 obtain ⟨rfl,_,rfl⟩:=hv
 obtain ⟨x,hx,hu⟩:=flat_inv f T.n h0 l hlen j u hj
 obtain ⟨ad,cs,ha,_,hc,hr⟩:=h3 _ x hx
 rw [hf _ _ _ _ hr] at hc
 refine ⟨ad,ha,?_⟩
 have:=hc (j%T.n) u hu
 rw [add_add,Nat.mul_comm,Nat.div_add_mod] at this
 exact this
theorem flat_int (l:List Int):l.flatMap (fun x=> [Value.int .i64 x])=l.map (Value.int .i64):=by
 induction l with
 | nil=>rfl
 | cons x l ih=>simp [ih]
theorem OwnS.toInts {F:Nat→Prop} {w:World} {e:TypeId} {v:Value} {l:List Int} (h:OwnS w e 1 v l.length (l.map (Value.int .i64))) (hi: ∀x∈l,I64 x) (hF: ∀g,v.ownBlock=some g→F g) (hn:l.length≤9223372036854775807):SL intT F w v l :=
 OwnS.toSL (T:=intT) (fun x=> [Value.int .i64 x]) (fun x hx=>⟨rfl,hi x hx⟩) (by rw [flat_int]; exact h) hF hn
theorem OwnS.of_blk {w:World} {g:Nat} {e:TypeId} {cs:List Value} {n sz:Nat} (h:Blk w g e cs) (hl:cs.length=n*sz) (hn:n≤9223372036854775807):OwnS w e sz (.slice (some ⟨g,0,none⟩) n n) n cs :=
 ⟨hl,.inr ⟨g,n,cs.toArray,rfl,Nat.zero_le _,h,Nat.le_refl _,by simp only [maxLen]; omega,by simp [hl],by simp [←hl]⟩⟩
theorem new_own {w:World} {v v':Value} {n0:Nat} (h:v'.ownBlock=v.ownBlock∨v'.ownBlock=some w.heap.size) (hv: ∀g,v.ownBlock=some g→n0≤g) (hn:n0≤w.heap.size): ∀g,v'.ownBlock=some g→n0≤g:=by
 intro g hg
 rcases h with h|h
 ·exact hv g (h ▸ hg)
 ·rw [h] at hg; simp only [Option.some.injEq] at hg; omega
theorem addr0 (g j:Nat):Addr.add ⟨g,0,none⟩ j=⟨g,j,none⟩:=by unfold Addr.add; split<;>simp_all
theorem OwnS.set {w:World} {e:TypeId} {sz n:Nat} {v:Value} {xs:List Value} {g:Nat} (h:OwnS w e sz v n xs) (hg:v.ownBlock=some g) {j:Nat} (hj:j<xs.length) (u:Value):OwnS (w.setCell ⟨g,j,none⟩ u) e sz v n (xs.set j u):=by
 refine ⟨by simp [h.1],?_⟩
 rcases h.2 with ⟨rfl,_⟩|⟨g',cap,cur,hv,hb,hh,h1,h2,h3,h4⟩
 ·simp [Value.ownBlock] at hg
 ·rw [hv] at hg
  simp [Value.ownBlock] at hg
  subst hg
  refine .inr ⟨g',cap,cur.setIfInBounds j u,hv,hb,?_,h1,h2,by simp [h3],?_⟩
  ·simp [World.setCell,Array.getElem?_modify,hh]
  ·rw [←h4]
   simp [List.take_set]
theorem grown_setCell (w:World) (g j:Nat) (u:Value):w.grownBy (w.setCell ⟨g,j,none⟩ u) (some g) :=
 ⟨rfl,rfl,rfl,by simp [World.setCell],fun k hk hne=>Below.heap_setCell w ⟨g,j,none⟩ u k (fun e=>hne (by rw [e]))⟩
theorem grown_trans {a b c:World} {row:Option Nat} (h:a.grownBy b row) (k:b.grownBy c row):a.grownBy c row :=
 ⟨k.os.trans h.os,k.tape.trans h.tape,k.output.trans h.output,Nat.le_trans h.size k.size,fun i hi hne=>(k.block i (Nat.lt_of_lt_of_le hi h.size) hne).trans (h.block i hi hne)⟩
def splice (xs:List Value) (o:Nat) (cs:List Value):List Value:=xs.take o++cs++xs.drop (o+cs.length)
section
variable {P:Program} {r:Option Nat} {Q:Exit→Act→World→Prop} {N:Nat} {ds:List Deferred} {ops rest:List Oper} {E:Env} {w:World}
variable {ty:TypeId} {pos:String} {af:Array Edge} {gu:Option (Nat×Bool)} {x y:Operand}
end
end Go.PF
namespace Go.PF
open Go.RowKit
section
variable {P:Program} {r:Option Nat} {Q:Exit→Act→World→Prop} {N:Nat} {ds:List Deferred} {ops rest:List Oper} {E:Env} {D:DE} {w:World} {G:Option Bool} {Fin:DE→Prop}
variable {d:Option Tmp} {ty:TypeId} {pos:String} {af:Array Edge} {gu:Option (Nat×Bool)}
variable {x y z:Operand} {cx cy cz:Option Bool} {ρ:Operand→Value}
theorem X.eqlNil {t t' e:TypeId} {A:Option Addr} {n c:Nat} (ht:P.underlying t=some (.slice e)) (hx:ρ x= .slice A n c) (hy:ρ (.const (.slice none 0 0))= .slice none 0 0):(execOp ρ ⟨d,.binOp .eql t x (.const (.slice none 0 0)) t',ty,pos,af,gu⟩).run P w= .ok (.value (.bool A.isNone)) w:=by
 simp only [execOp]; rw [hx,hy,eqGuard_at_slice]
 simp [Lib.run_eql_slice_nil w t e A n c 0 0 ht]
theorem TW.eqlNil {t t' e:TypeId} {A:Option Addr} {n c:Nat} (hg:gd ops E gu=some G) (hd:okDst N d=true) (ht:P.underlying t=some (.slice e)) (hx:ev E x=some (cx,.slice A n c)) (ix:Cnd G→Cnd cx)
  (next:TW P r Q N ds ops rest (ins E d G (.bool A.isNone)) w):TW P r Q N ds ops (⟨d,.binOp .eql t x (.const (.slice none 0 0)) t',ty,pos,af,gu⟩::rest) E w :=
 TW.val hg hd rfl (fun hG a ha=>by have:=ha.eval hx (ix hG); exact X.eqlNil ht this rfl) next
theorem TW.storeBlkF {t t1:TypeId} {g n:Nat} {old cs:List Value} (hg:gu=none) (hx:ev E x=some (none,.pointer (some ⟨g,0,none⟩))) (hy:ev E y=some (none,.agg cs.toArray)) (hb:Blk w g t1 old) (hs:(P.info? t).map (·.size)=some n) (hn:cs.length=n) (hl:old.length=n)
  (h1:cs.all (·.oneCell')=true) (next: ∀w',Blk w' g t1 cs→w.grownBy w' (some g)→w'.heap.size=w.heap.size→TW P r Q N ds ops rest E w'):TW P r Q N ds ops (⟨none,.store t x y,ty,pos,af,gu⟩::rest) E w:=by
 subst hn
 refine TW.storeBlk hg hx hy hb hs hl h1 (next _ ?_ ⟨rfl,rfl,rfl,by simp,fun k hk hne=> ?_⟩ (by simp))
 ·exact setRow_heap w g old.toArray cs.toArray t1 (0,0) hb
 ·have:g≠k:=fun e=>hne (by rw [e])
  simp [World.setRow,Array.getElem?_modify,this]
variable {fn:Func} {R:Value→World→Prop}
theorem retCS {s:Nat} {t t1:TypeId} {fs:Array Field} {g:Nat} {cs:List Value} (hres:fn.results= #[.cell s t]) (hu:P.underlying t=some (.struct fs)) (hs:(P.info? t).map (·.size)=some cs.length) (hl:look E s=some (none,.pointer (some ⟨g,0,none⟩))) (hB:Blk w g t1 cs) (hR:R (.agg cs.toArray) w) :
  KW N [] (bodyPost P fn (fun e w'=> ∃v,e= .returned v∧R v w') .ret) E w:=fun a ha=>by
 refine bodyPost_ret (v:= .agg cs.toArray) ?_ ha.defers ⟨_,rfl,hR⟩
 have e:a.tmps.getD s undef= .pointer (some ⟨g,0,none⟩):=(ha.slots s none _ hl).1 trivial
 simp only [Array.getD_eq_getD_getElem?] at e
 simp [results,hres,e,asAddr,run_loadVarS hu hs (fun j v hj=>hB.fld hj)]
end
def Thunk (P:Program) (w:World) (f:FuncId) (caps:List Value) (b:Bool):Prop:= ∀w',Below w.heap.size w w'→Gives P f caps.toArray w' fun u w''=>Below w'.heap.size w' w''∧u= .bool b
theorem Thunk.later {P:Program} {w w1:World} {f:FuncId} {caps:List Value} {b:Bool} (h:Thunk P w f caps b) (hb:Below w.heap.size w w1):Thunk P w1 f caps b:=fun w' hw=>h w' (hb.step hw)
end Go.PF
namespace Go.PF
open Go.RowKit
def Sats:List Ent→List Value→World→Prop
 | [],[],_=>True
 | e::es,v::vs,w=>e.sat v w∧Sats es vs w
 | _,_,_=>False
theorem Sats.one {e:Ent} {vs:List Value} {w:World} (h:Sats [e] vs w): ∃a,vs= [a]∧e.sat a w:=by
 match vs,h with
 | [a],⟨h1,_⟩=>exact ⟨a,rfl,h1⟩
theorem Sats.two {e1 e2:Ent} {vs:List Value} {w:World} (h:Sats [e1,e2] vs w): ∃a b,vs= [a,b]∧e1.sat a w∧e2.sat b w:=by
 match vs,h with
 | [a,b],⟨h1,h2,_⟩=>exact ⟨a,b,rfl,h1,h2⟩
theorem Sats.three {e1 e2 e3:Ent} {vs:List Value} {w:World} (h:Sats [e1,e2,e3] vs w): ∃a b c,vs= [a,b,c]∧e1.sat a w∧e2.sat b w∧e3.sat c w:=by
 match vs,h with
 | [a,b,c],⟨h1,h2,h3,_⟩=>exact ⟨a,b,c,rfl,h1,h2,h3⟩
theorem Sats.five {e1 e2 e3 e4 e5:Ent} {vs:List Value} {w:World} (h:Sats [e1,e2,e3,e4,e5] vs w): ∃a b c d e,vs= [a,b,c,d,e]∧e1.sat a w∧e2.sat b w∧e3.sat c w∧e4.sat d w∧e5.sat e w:=by
 match vs,h with
 | [a,b,c,d,e],⟨h1,h2,h3,h4,h5,_⟩=>exact ⟨a,b,c,d,e,rfl,h1,h2,h3,h4,h5⟩
theorem Ent.mono_pure (p:Value→Prop):Ent.mono (.pr fun v _=>p v):=fun _ _ _ _ h=>h
section
variable {P:Program} {N:Nat} {ds:List Deferred} {ops rest:List Oper} {D:DE} {w:World} {G:Option Bool} {Fin:DE→Prop}
variable {d:Option Tmp} {ty:TypeId} {pos:String} {af:Array Edge} {gu:Option (Nat×Bool)}
variable {x:Operand} {cx:Option Bool}
def PArgs (L:List Nat) (N:Nat) (ds:List Deferred) (D:DE) (G:Option Bool) (xs:List Operand) (es:List Ent):Prop:=(∀t,Operand.tmp t∈xs→t∈L)→ ∀a w,FitL N ds L D a w→Cnd G→Sats es (xs.map a.eval) w
theorem PArgs.nil {L:List Nat}:PArgs L N ds D G [] []:=fun _ _ _ _ _=>trivial
theorem PArgs.cons {L:List Nat} {xs:List Operand} {e:Ent} {es:List Ent} (hx:dev D x=some (cx,e)) (ix:Cnd G→Cnd cx) (h:PArgs L N ds D G xs es):PArgs L N ds D G (x::xs) (e::es):=fun hL a w ha hG =>
 ⟨ha.sat hx (fun t ht=>hL t (by simp [ht])) (ix hG),h (fun t ht=>hL t (by simp [ht])) a w ha hG⟩
theorem DW.callP {f:Operand} {k:FuncId} {cap:List Value} {cf:Option Bool} {xs:List Operand} {es:List Ent} {ts:Array TypeId} (e:Ent) (hm:e.mono) (hg:dgd ops D gu=some G) (hd:okDst N d=true) (he:enters P k=true)
  (hf:dev D f=some (cf,.ex (.func (.func k) #[] cap.toArray))) (jf:Cnd G→Cnd cf) (hv:PArgs (Oper.looksAt ops.toArray ⟨d,.call ⟨.value f,xs.toArray,ts⟩,ty,pos,af,gu⟩) N ds D G xs es)
  (hc:Cnd G→ ∀w',Below w.heap.size w w'→ ∀vs,Sats es vs w'→Gives P k (vs++cap).toArray w' fun v w''=>Below w'.heap.size w' w''∧e.sat v w'')
  (next:DW P N ds .weak ops w Fin rest (dins D d G e)):DW P N ds .weak ops w Fin (⟨d,.call ⟨.value f,xs.toArray,ts⟩,ty,pos,af,gu⟩::rest) D :=
 DW.enter (o:=⟨d,.call ⟨.value f,xs.toArray,ts⟩,ty,pos,af,gu⟩) hg hd rfl hm (fun hG a w' hb ha=>⟨_,_,X.call he (ha.eval (o:=⟨d,.call ⟨.value f,xs.toArray,ts⟩,ty,pos,af,gu⟩) hf (by simp [Op.operands,Call.operands]) (jf hG)) rfl,
  hc hG w' hb _ (hv (fun t ht=>mem_looks (by simp [Op.operands,Call.operands,ht])) a w' ha hG)⟩) next
theorem DW.extractP {φ:Value→World→Prop} {i:Nat} (ψ:Value→World→Prop) (hg:dgd ops D gu=some G) (hd:okDst N d=true) (hx:dev D x=some (cx,.pr φ)) (ix:Cnd G→Cnd cx) (hm:Ent.mono (.pr ψ))
  (h: ∀u w,φ u w→ ∃vs v,u= .tuple vs∧vs[i]?=some v∧ψ v w)
  (next:DW P N ds .weak ops w Fin rest (dins D d G (.pr ψ))):DW P N ds .weak ops w Fin (⟨d,.extract x i,ty,pos,af,gu⟩::rest) D:=by
 refine DW.gen hg hd rfl hm (fun hG a w' hb ha=> ?_) next
 have h1:φ (a.eval x) w':=ha.evalP (o:=⟨d,.extract x i,ty,pos,af,gu⟩) hx (by simp [Op.operands]) (ix hG)
 obtain ⟨vs,v,h2,h3,h4⟩:=h _ _ h1
 exact ⟨v,w',X.extract h3 h2,Below.refl _ _,h4⟩
theorem DW.assignP {φ:Value→World→Prop} (hg:dgd ops D gu=some G) (hd:okDst N d=true) (hx:dev D x=some (cx,.pr φ)) (ix:Cnd G→Cnd cx) (hm:Ent.mono (.pr φ))
  (next:DW P N ds .weak ops w Fin rest (dins D d G (.pr φ))):DW P N ds .weak ops w Fin (⟨d,.assign x,ty,pos,af,gu⟩::rest) D:=by
 refine DW.gen hg hd rfl hm (fun hG a w' hb ha=> ?_) next
 have h1:φ (a.eval x) w':=ha.evalP (o:=⟨d,.assign x,ty,pos,af,gu⟩) hx (by simp [Op.operands]) (ix hG)
 exact ⟨_,w',by simp [execOp],Below.refl _ _,h1⟩
theorem DW.moveP {φ:Value→World→Prop} (hg:dgd ops D gu=some G) (hd:okDst N d=true) (hx:dev D x=some (cx,.pr φ)) (ix:Cnd G→Cnd cx) (hm:Ent.mono (.pr φ))
  (next:DW P N ds .weak ops w Fin rest (dins D d G (.pr φ))):DW P N ds .weak ops w Fin (⟨d,.move x,ty,pos,af,gu⟩::rest) D:=by
 refine DW.gen hg hd rfl hm (fun hG a w' hb ha=> ?_) next
 have h1:φ (a.eval x) w':=ha.evalP (o:=⟨d,.move x,ty,pos,af,gu⟩) hx (by simp [Op.operands]) (ix hG)
 exact ⟨_,w',by simp [execOp],Below.refl _ _,h1⟩
theorem TW.known {r:Option Nat} {Q:Exit→Act→World→Prop} {E:Env} {op:Op} (hg:gd ops E gu=some G) (hG:Cnd G) (next:TW P r Q N ds ops (⟨d,op,ty,pos,af,none⟩::rest) E w):TW P r Q N ds ops (⟨d,op,ty,pos,af,gu⟩::rest) E w:=by
 intro a ha
 have h1:=next a ha
 have h2:=(wanted_of (o:=⟨d,op,ty,pos,af,gu⟩) ha hg).1 hG
 unfold wpListIn at h1 ⊢
 rw [if_pos h2]
 rw [if_pos (by simp [Region.wanted])] at h1
 exact h1
def dsel (D:DE):List Nat→Option (List Ent)
 | []=>some []
 | i::is=>match dlook D i with
  | some (none,e)=>match dsel D is with
   | some es=>some (e::es)
   | none=>none
  | _=>none
def zipE:List Nat→List Value→Env
 | i::is,v::vs=>(i,none,v)::zipE is vs
 | _,_=> []
theorem FitD.sel {a:Act} (h:FitD N ds D a w): ∀ {is:List Nat} {es:List Ent},dsel D is=some es→Sats es (is.map fun i=>a.tmps.getD i undef) w
 | [],es,hp=>by simp [dsel] at hp; subst hp; trivial
 | i::is,es,hp=>by
  simp only [dsel] at hp
  split at hp
  ·rename_i e he
   split at hp
   ·rename_i es' hes
    simp only [Option.some.injEq] at hp
    subst hp
    exact ⟨(h.slots i none e he).1 trivial,h.sel hes⟩
   ·cases hp
  ·cases hp
theorem FitD.zip {a:Act} (h:FitD N ds D a w) (is:List Nat):Fit N ds (zipE is (is.map fun i=>a.tmps.getD i undef)) a:=by
 refine ⟨h.size,h.defers,?_⟩
 induction is with
 | nil=>intro i c v hl; simp [zipE,look] at hl
 | cons j is ih =>
  intro i c v hl
  simp only [List.map_cons,zipE,look] at hl
  by_cases hi:j=i
  ·subst hi
   rw [beq_self] at hl
   simp only [Option.some.injEq,Prod.mk.injEq] at hl
   obtain ⟨rfl,rfl⟩:=hl
   exact ⟨fun _=>rfl,fun h=>absurd trivial h⟩
  ·rw [beq_ne hi] at hl
   exact ih i c v hl
theorem DW.finP {K:Act→World→Prop} (is:List Nat) {es:List Ent} (hp:dsel D is=some es) (h: ∀vs w',Below w.heap.size w w'→Sats es vs w'→KW N ds K (zipE is vs) w'): ∀a w',Below w.heap.size w w'→FitD N ds D a w'→K a w' :=
 fun a w' hb ha=>h _ w' hb (ha.sel hp) a (ha.zip is)
end
end Go.PF
