/- Texts of this claim,joined. -/
import Derived.Test.YtoleahhfkpkcjaaGreatDoorQA
import Derived.Maps.AppendAt
import Derived.RangeFuncNested
import Derived.Lib.SliceRun
set_option linter.unusedSimpArgs false
set_option linter.unusedVariables false
set_option maxRecDepth 100000
set_option maxHeartbeats 4000000
variable {R:Bool->Go.World->Prop} {e t kt:Go.TypeId} {xs vs cs cap:List Go.Value} {n sz D g L b s c:Nat} {w W w':Go.World} {v:Go.Value} {ps:List Go.Tmp} {φ:Go.Value->Go.World->Prop} {F:Nat->Prop} {pe:Option Go.Code} {parts:Array (Nat×Go.Operand)} {ts:Array Go.TypeId} {assign body:Go.Code} {es:List Go.PF.Ent} {A:Option Go.Addr} {f:Go.Operand} {cf:Option Bool} {α:Type}
namespace Go.PF
open Go.RowKit
section
section
variable {P:Program} {r:Option Nat} {Q:Exit->Act->World->Prop} {N:Nat} {ds:List Deferred} {ops rest:List Oper} {E:Env} {D:DE} {w:World} {G:Option Bool} {Fin:DE->Prop} {md:Mode}
variable {d:Option Tmp} {ty:TypeId} {pos:String} {af:Array Edge} {gu:Option (Nat×Bool)}
variable {x y z:Operand} {cx cy cz:Option Bool} {ρ:Operand->Value}
def number {α:Type} (l:List α):List (Nat×α):=(l.zipIdx 0).map λp=>(p.2,p.1)
theorem FF {β:Type} (f:α->β) (l:List α):(number l).map (λp=>(p.1,f p.2))=number (l.map f):=by
 simp [number,List.zipIdx_map]
def cB (P:Program) (t e:TypeId) (sz:Nat):Bool:=match P.underlying t,P.info? e with
 | some (.slice e'),some i=>match i.zero with
  | some zv=>Nat.beq e' e&&Nat.beq i.size sz&&Nat.beq zv.cells.size sz&&Nat.blt 0 sz
  | none=>false
 | _,_=>false
theorem ma (h:cB P t e sz=true): ∃i a,P.underlying t=some (.slice e)/\P.info? e=some i/\i.zero=some a/\i.size=sz/\a.cells.size=sz/\0<sz:=by
 unfold cB at h
 split at h
 .rename_i l i b c
  split at h
  .rename_i a d;simp only [Bool.and_eq_true] at h;obtain ⟨⟨⟨f,g⟩,j⟩,k⟩:=h;have:=Nat.eq_of_beq_eq_true f;subst this;exact ⟨i,a,b,c,d,Nat.eq_of_beq_eq_true g,Nat.eq_of_beq_eq_true j,blt_iff.1 k⟩
  .cases h
 .cases h
theorem oI (he:cB P t e sz=true) (j: ∀v∈vs,v.cells.size=sz) (k:vs.length*sz<=16777216) (a:0<vs.length) (w:World) :
  (Instr.buildSlice t vs.length (number vs).toArray).run P w= .ok (.slice (some ⟨w.heap.size,0,none⟩) vs.length vs.length) (w.alloc (.cells (vs.flatMap λv=>v.cells.toList).toArray e)):=by
 obtain ⟨i,c,d,f,g,rfl,h,b⟩:=ma he;have l:=Nat.mul_pos a b;refine run_buildSlice w t e vs.length _ _ i c d f g (by simp only [Nat.reducePow]; omega) ZJ ?_;exact Great.fill_whole b vs _ j ZM
theorem fK {t e:TypeId} {sz len:Nat} {parts:Array (Nat×Operand)} {xs:List Operand} {vs:List Value} (hp:parts.toList=number xs) (hl:len=vs.length) (he:cB P t e sz=true) (f:xs.map ρ=vs) (g: ∀v∈vs,v.cells.size=sz) (b:vs.length*sz<=16777216) (a:0<vs.length) :
  (execOp ρ ⟨d,.buildSlice t len parts,ty,pos,af,gu⟩).run P w= .ok (.value (.slice (some ⟨w.heap.size,0,none⟩) vs.length vs.length)) (w.alloc (.cells (vs.flatMap λv=>v.cells.toList).toArray e)):=by
 subst hl;have c:parts.map (λ(i,x)=>(i,ρ x))=(number vs).toArray:=by
  apply Array.toList_inj.1;rw [Array.toList_map,hp,<-f,<-FF]
 simp only [execOp];rw [c];simp [oI he g b a w]
theorem bI {t:TypeId} (e:TypeId) {sz len:Nat} {parts:Array (Nat×Operand)} (xs:List Operand) {vs cs:List Value} (l:gu=none) (m:aC N d=true) (hp:parts.toList=number xs) (he:cB P t e sz=true) (n:Args N ds E none xs vs) (hl:len=vs.length)
  (o:vs.all (λv=>Nat.beq v.cells.size sz)=true) (f:Nat.ble (vs.length*sz) 16777216=true) (b:Nat.blt 0 vs.length=true) (h:vs.flatMap (λv=>v.cells.toList)=cs)
  (next: ∀g i,Fresh w i g e cs->TW P r Q N ds ops rest (ins E d none (.slice (some ⟨g,0,none⟩) len len)) i):TW P r Q N ds ops (⟨d,.buildSlice t len parts,ty,pos,af,gu⟩::rest) E w:=by
 subst hl;have c:=λv j=>Nat.eq_of_beq_eq_true (List.all_eq_true.1 o v j);refine ek l m rfl (λa k=>fK hp rfl he (n a k trivial) c (Nat.le_of_ble_eq_true f) (blt_iff.1 b)) ?_;rw [h];exact next _ _ (gD w e cs)
theorem bL (e:TypeId) (j:gu=none) (k:aC N d=true) (he:cB P t e sz=true)
  (next: ∀g b,Fresh w b g e []->TW P r Q N ds ops rest (ins E d none (.slice (some ⟨g,0,none⟩) 0 0)) b):TW P r Q N ds ops (⟨d,.buildSlice t 0 #[],ty,pos,af,gu⟩::rest) E w:=by
 obtain ⟨i,l,c,f,m,rfl,h,n⟩:=ma he;refine ek j k rfl (λa o=> ?_) (next _ _ (gD w e []));simp [execOp,Instr.buildSlice,run_underlying c,sizeOf,typeInfo,f,Instr.fill,newRow,Array.range_zero']
def Lies (e:TypeId) (len:Nat) (cs:List Value) (v:Value) (w:World):Prop:= ∃g,v= .slice (some ⟨g,0,none⟩) len len/\Blk w g e cs
theorem Lies.mono (e:TypeId) (a:Nat) (cs:List Value):Ent.mono (.pr (Lies e a cs)):=λ_ _ _ b ⟨g,c,d⟩=>⟨g,c,d.next b⟩
theorem kw {t:TypeId} (e:TypeId) {sz len:Nat} {parts:Array (Nat×Operand)} (xs:List Operand) {vs cs:List Value} (n:fD ops D gu=some G) (o:aC N d=true) (hp:parts.toList=number xs) (he:cB P t e sz=true)
  (p:DArgs (Oper.looksAt ops.toArray ⟨d,.buildSlice t len parts,ty,pos,af,gu⟩) N ds D G xs vs) (hl:len=vs.length)
  (q:vs.all (λv=>Nat.beq v.cells.size sz)=true) (g:Nat.ble (vs.length*sz) 16777216=true) (b:Nat.blt 0 vs.length=true) (h:vs.flatMap (λv=>v.cells.toList)=cs)
  (next:DW P N ds .weak ops w Fin rest (bE D d G (.pr (Lies e len cs)))):DW P N ds .weak ops w Fin (⟨d,.buildSlice t len parts,ty,pos,af,gu⟩::rest) D:=by
 subst hl;have c:=λv i=>Nat.eq_of_beq_eq_true (List.all_eq_true.1 q v i);refine pG n o rfl (Lies.mono e _ cs) (λk a f r l=> ?_) next
 refine ⟨_,_,fK hp rfl he (p (λt m=>bB ?_) a f l k) c (Nat.le_of_ble_eq_true g) (blt_iff.1 b),(ZA).alloc ZC _,f.heap.size,rfl,?_⟩
 .simp only [Op.operands];rw [hp];simp only [number,List.map_map];rw [List.mem_map];obtain ⟨j,s,he⟩:=List.getElem_of_mem m;exact ⟨(Operand.tmp t,j),by rw [List.mem_zipIdx_iff_getElem?]; simp [he.symm],rfl⟩
 .rw [h]; exact Blk.new f e cs
theorem vR {t:TypeId} {parts:Array (Nat×Operand)} {is:List Nat} {xs:List Operand} {vs:List Value} {cs:List Value} (hp:parts.toList=is.zip xs) (a:xs.map ρ=vs) (hb:P.built t (is.zip vs)=some cs.toArray) :
  (execOp ρ ⟨d,.build t parts,ty,pos,af,gu⟩).run P w= .ok (.value (.agg cs.toArray)) w:=by
 have b:(parts.map λ(i,x)=>(i,ρ x)).toList=is.zip vs:=by
  rw [Array.toList_map,hp,<-a];clear hp hb a
  induction is generalizing xs with
  | nil=>simp
  | cons i is c=>cases xs with
   | nil=>simp
   | cons x xs=>simp [c]
 simp only [execOp];simp [run_build w t _ cs.toArray (by rw [b]; exact hb)]
theorem jr {t:TypeId} {parts:Array (Nat×Operand)} (is:List Nat) (xs:List Operand) {vs:List Value} (cs:List Value) (e:gd ops E gu=some G) (f:aC N d=true) (hp:parts.toList=is.zip xs) (g:Args N ds E G xs vs) (hb:P.built t (is.zip vs)=some cs.toArray)
  (next:TW P r Q N ds ops rest (ins E d G (.agg cs.toArray)) w):TW P r Q N ds ops (⟨d,.build t parts,ty,pos,af,gu⟩::rest) E w :=
 fZ e f rfl (λb a c=>vR hp (g a c b) hb) next
theorem JH {is:List Nat} {xs:List Operand} (hp:parts.toList=is.zip xs) (b:Nat.ble xs.length is.length=true) {t:Nat} (h:Operand.tmp t∈xs):Operand.tmp t∈((parts.toList.map (·.2)).toArray).toList:=by
 have a:=Nat.le_of_ble_eq_true b;rw [hp];simp only [List.map_snd_zip a];exact h
theorem OO {t:TypeId} {parts:Array (Nat×Operand)} (is:List Nat) (xs:List Operand) {vs:List Value} (cs:List Value) (h:fD ops D gu=some G) (i:aC N d=true) (hp:parts.toList=is.zip xs) (b:Nat.ble xs.length is.length=true)
  (j:DArgs (Oper.looksAt ops.toArray ⟨d,.build t parts,ty,pos,af,gu⟩) N ds D G xs vs) (hb:P.built t (is.zip vs)=some cs.toArray)
  (next:DW P N ds md ops w Fin rest (bE D d G (.ex (.agg cs.toArray)))):DW P N ds md ops w Fin (⟨d,.build t parts,ty,pos,af,gu⟩::rest) D :=
 jw h i rfl (λc a e _ f=>vR hp (j (λt g=>bB (JH hp b g)) a e f c) hb) next
def bZ (P:Program) (t e:TypeId) (sz bytes:Nat):Bool:=match P.underlying t,P.info? e with
 | some (.slice e'),some i=>match i.zero with
  | some zv=>Nat.beq e' e&&Nat.beq i.size sz&&Nat.beq i.bytes bytes&&Nat.beq zv.cells.size sz&&Nat.blt 0 sz
  | none=>false
 | _,_=>false
theorem lY {bytes:Nat} (h:bZ P t e sz bytes=true): ∃i a,P.underlying t=some (.slice e)/\P.info? e=some i/\i.zero=some a/\i.size=sz/\i.bytes=bytes/\a.cells.size=sz/\0<sz:=by
 unfold bZ at h
 split at h
 .rename_i m i b c
  split at h
  .rename_i a d;simp only [Bool.and_eq_true] at h;obtain ⟨⟨⟨⟨f,g⟩,j⟩,k⟩,l⟩:=h;have:=Nat.eq_of_beq_eq_true f;subst this;exact ⟨i,a,b,c,d,Nat.eq_of_beq_eq_true g,Nat.eq_of_beq_eq_true j,Nat.eq_of_beq_eq_true k,blt_iff.1 l⟩
  .cases h
 .cases h
def OwnS (w:World) (e:TypeId) (sz:Nat) (v:Value) (n:Nat) (xs:List Value):Prop:=w.ownsRow 0 e sz v n xs
theorem OwnS.nil (w:World) (e:TypeId) (sz:Nat):OwnS w e sz (.slice none 0 0) 0 []:=⟨ZM,.inl ⟨rfl,rfl⟩⟩
theorem OwnS.kept {w w':World} (h:OwnS w e sz v n xs) (k: ∀g,v.ownBlock=some g->w'.heap[g]?=w.heap[g]?):OwnS w' e sz v n xs:=by
 refine ⟨h.1,?_⟩;rcases h.2 with d|⟨g,a,b,c,f,i,j⟩
 .exact .inl d
 .exact .inr ⟨g,a,b,c,f,by rw [k g (by rw [c]; rfl)]; exact i,j⟩
theorem OwnS.lt {w:World} (h:OwnS w e sz v n xs) (a:v.ownBlock=some g):g<w.heap.size:=by
 rcases h.2 with ⟨rfl,_⟩|⟨i,b,c,d,_,f,_⟩
 .simp [Value.ownBlock] at a
 .rw [d] at a;simp [Value.ownBlock] at a;subst a;exact (Array.getElem?_eq_some_iff.1 f).1
theorem OwnS.below {w w':World} (h:OwnS w e sz v n xs) (hb:ZT w w'):OwnS w' e sz v n xs:=h.kept λ_ a=>hb.block _ (h.lt a)
theorem OwnS.form {w:World} (h:OwnS w e sz v n xs): ∃A a,v= .slice A n a/\n<=a/\xs.length=n*sz /\
  (∀j u,xs[j]?=some u-> ∃g,A=some ⟨g,0,none⟩/\v.ownBlock=some g/\w.cell? ⟨g,j,none⟩=some u/\w.frozen? ⟨g,j,none⟩=false):=by
 rcases h.2 with ⟨rfl,rfl⟩|⟨g,a,f,c,l,d,i,m,o,k⟩
 .refine ⟨none,0,rfl,ZC,h.1,λj u b=> ?_⟩;have:=List.eq_nil_of_length_eq_zero (by simpa using h.1);rw [this] at b;simp at b
 .refine ⟨some ⟨g,0,none⟩,a,c,i,h.1,λj u b=>⟨g,rfl,by rw [c]; rfl,?_,?_⟩⟩
  .rw [<-k] at b;rw [List.getElem?_take] at b
   split at b
   .simp [World.cell?,d]; simpa using b
   .cases b
  .simp [World.frozen?,d]
theorem lJ {bytes m:Nat} {news:List Value} (O:bZ P t e sz bytes=true) (a:OwnS w e sz v n xs) (hl:news.length=m*sz) (hn: ∀j u,news[j]?=some u-> ∃k,A=some k/\w.cell? (k.add j)=some u) (h1: ∀u∈news,u.oneCell'=true)
  (hb:(n+m)*bytes<=140737488355328) (r:1<=bytes): ∃b d,(Builtin.append_ #[t,t] ty #[v,.slice A m c]).run P w= .ok b d/\OwnS d e sz b (n+m) (xs++news)/\w.grownBy d v.ownBlock/\(b.ownBlock=v.ownBlock\/b.ownBlock=some w.heap.size):=by
 obtain ⟨i,y,l,o,z,B,C,D,s⟩:=lY O;have p:n+m<=maxLen:=by
  have:n+m<=(n+m)*bytes:=Nat.le_mul_of_pos_right _ r;simp only [maxLen]; omega
 rcases A with _|k
 .have f:news= []:=by
   cases news with
   | nil=>rfl
   | cons u R=>obtain ⟨k,h,_⟩:=hn 0 u rfl; cases h
  subst f;have E:m=0:=by
   rcases Nat.eq_zero_or_pos m with h|h
   .exact h
   .have:=Nat.mul_pos h s; simp at hl; omega
  subst E;refine ⟨v,w,?_,by simpa [OwnS] using a,⟨rfl,rfl,rfl,ZC,λ_ _ _=>rfl⟩,.inl rfl⟩;rcases a.2 with ⟨rfl,rfl⟩|⟨g,F,G,rfl,_,_,q,_⟩
  .simp [Builtin.append_,run_underlying l,sizeOf,typeInfo,o,Builtin.lenOf,Builtin.firstCells]
  .simp [Builtin.append_,run_underlying l,sizeOf,typeInfo,o,Builtin.lenOf,Builtin.firstCells,q,storeCells]
 .obtain ⟨b,d,H,I,J,_,K⟩:=run_append_own_at (P:=P) w 0 t ty e i y sz bytes l o z B C D s v n xs a k m c news hl (λj u L=>by
   obtain ⟨M,x,N⟩:=hn j u L;simp only [Option.some.injEq] at x;subst x; exact N) h1 p hb ZB
  exact ⟨b,d,H,I,J,K⟩
theorem aT {t e:TypeId} {sz bytes n m c:Nat} {s:Operand} {v:Value} {xs:List Value} {A:Option Addr} (news:List Value) (y:gu=none) (z:aC N d=true) (B:bZ P t e sz bytes=true)
  (hs:ev E s=some (none,v)) (g:OwnS w e sz v n xs) (C:ev E x=some (none,.slice A m c)) (hl:news.length=m*sz) (hn: ∀j u,news[j]?=some u-> ∃k,A=some k/\w.cell? (k.add j)=some u) (h1: ∀u∈news,u.oneCell'=true)
  (hb:(n+m)*bytes<=140737488355328) (h:1<=bytes)
  (next: ∀b f,OwnS f e sz b (n+m) (xs++news)->w.grownBy f v.ownBlock->(b.ownBlock=v.ownBlock\/b.ownBlock=some w.heap.size)->TW P r Q N ds ops rest (ins E d none b) f) :
  TW P r Q N ds ops (⟨d,.call ⟨.builtin .append,#[s,x],#[t,t]⟩,ty,pos,af,gu⟩::rest) E w:=by
 obtain ⟨b,f,l,o,p,q⟩:=lJ (ty:=ty) (c:=c) B g hl hn h1 hb h;refine ek y z rfl (λa i=> ?_) (next b f o p q);simp only [execOp,resolve,invoke,builtin,Sem.run_bind,Sem.run_pure,Result.andThen_ok,List.map_toArray,List.map_cons,List.map_nil,i.eval hs trivial,i.eval C trivial,l]
theorem qo (h:P.underlying kt=some .string) (e:Bool) (n:Nat) (a:ByteArray) (w:World):(Instr.checkKey e (n+1) kt (.string a)).run P w= .ok () w:=by
 simp [Instr.checkKey,run_underlying h]
theorem jG {k:IntKind} (h:P.underlying kt=some (.int k)) (e:Bool) (n:Nat) (a:Int) (w:World):(Instr.checkKey e (n+1) kt (.int k a)).run P w= .ok () w:=by
 simp [Instr.checkKey,run_underlying h]
structure Key (P:Program) (kt:TypeId) (κ:Type) where
 enc:κ->Value
 eqb:κ->κ->Bool
 kd:TypeDesc
 und:P.underlying kt=some kd
 same: ∀a b,Instr.sameNow kd (enc a) (enc b)=some (eqb a b)
 bits: ∀a b,eqb a b=true->Instr.sameBits 10000 (enc b) (enc a)=true
 ok: ∀(e:Bool) (a:κ) (w:World),(Instr.checkKey e 10000 kt (enc a)).run P w= .ok () w
def RN (P:Program) (kt:TypeId) (h:P.underlying kt=some .string):Key P kt ByteArray where
 enc:= .string
 eqb:=λa b=>a.toList==b.toList
 kd:= .string
 und:=h
 same:=λa b=>by show some (a==b)=_; rw [beq_toListBytes]
 bits:=λa b h=>by show (b==a)=true; rw [beq_toListBytes,beq_iff_eq] at *; exact h.symm
 ok:=λe a w=>qo h e 9999 a w
def MV (P:Program) (kt:TypeId) (k:IntKind) (h:P.underlying kt=some (.int k)):Key P kt Int where
 enc:= .int k
 eqb:=λa b=>a==b
 kd:= .int k
 und:=h
 same:=λa b=>by simp [Instr.sameNow]
 bits:=λa b h=>by
  have:a=b:=by simpa using h
  subst this; simp [Instr.sameBits]
 ok:=λe a w=>jG h e 9999 a w
variable {κ:Type} {kt:TypeId}
def MapIs (K:Key P kt κ) (w:World) (b:Nat) (m:List (κ×Value)):Prop:= ∃es clock,w.heap[b]?=some (.map es clock)/\es.toList.map (λe=>(e.key,e.val))=m.map λp=>(K.enc p.1,p.2)
def FC (K:Key P kt κ) (m:List (κ×Value)) (k:κ):Option Value:=match m with
 | []=>none
 | (k',v)::m=>if K.eqb k k' then some v else FC K m k
def CF (K:Key P kt κ) (m:List (κ×Value)) (k:κ) (v:Value):List (κ×Value):=match m with
 | []=> [(k,v)]
 | (k',v')::m=>if K.eqb k k' then (k,v)::m else (k',v')::CF K m k v
theorem MapIs.lt {K:Key P kt κ} {m:List (κ×Value)} (h:MapIs K w b m):b<w.heap.size:=by
 obtain ⟨c,d,a,_⟩:=h; exact (Array.getElem?_eq_some_iff.1 a).1
theorem MapIs.kept {K:Key P kt κ} {m:List (κ×Value)} (h:MapIs K w b m) (f:w'.heap[b]?=w.heap[b]?):MapIs K w' b m:=by
 obtain ⟨a,c,d,e⟩:=h; exact ⟨a,c,f.trans d,e⟩
theorem MapIs.below {K:Key P kt κ} {m:List (κ×Value)} (h:MapIs K w b m) (hb:ZT w w'):MapIs K w' b m:=h.kept (hb.block b h.lt)
theorem lZ (K:Key P kt κ) (k:κ): ∀(m:List (κ×Value)) (b:List MapEntry) (i:Nat),b.map (λe=>(e.key,e.val))=m.map (λp=>(K.enc p.1,p.2)) ->
  ∃ r,Instr.findNow K.kd (K.enc k) b i=some r/\r.map (·.2)=FC K m k/\(r=none-> ∀p∈m,K.eqb k p.1=false) /\
   ∀ j u,r=some (j,u)-> ∃a,j=i+a/\a<m.length/\(∀h:a<m.length,K.eqb k (m[a].1)=true)/\ ∀v:Value,CF K m k v=(m.take a)++(k,v)::m.drop (a+1)
 | [],b,i,h=>by
  have:b= []:=by simpa using h
  subst this
  exact ⟨none,rfl,rfl,(λ_ p c=>by simp at c),(λj u h=>by cases h)⟩
 | (k',o)::m,[],i,h=>by simp at h
 | (k',o)::m,e::b,i,h=>by
  simp only [List.map_cons,List.cons.injEq,Prod.mk.injEq] at h;obtain ⟨⟨n,g⟩,l⟩:=h;simp only [Instr.findNow];rw [n,K.same k k']
  cases d:K.eqb k k' with
  | true =>
   refine ⟨some (i,e.val),rfl,by simp [FC,d,g],(λh=>by cases h),λj u f=> ?_⟩;obtain ⟨rfl,rfl⟩:=f
   exact ⟨0,rfl,ZM,λ_=>by simpa using d,λv=>by simp [CF,d]⟩
  | false =>
   obtain ⟨r,q,s,t,w⟩:=lZ K k m b (i+1) l;refine ⟨r,q,by simp [FC,d,s],λh p c=> ?_,λj u f=> ?_⟩
   .simp at c;rcases c with rfl|c
    .exact d
    .exact t h p c
   .obtain ⟨a,n,g,l,x⟩:=w j u f;exact ⟨a+1,ZJ,ZO,λy=>by simpa using l g,λv=>by simp [CF,d,x v]⟩
theorem My (K:Key P kt κ) {m:List (κ×Value)} {k:κ} (v:Value) (h: ∀p∈m,K.eqb k p.1=false):CF K m k v=m++ [(k,v)]:=by
 induction m with
 | nil=>rfl
 | cons p m a=>obtain ⟨b,c⟩:=p; simp [CF,h (b,c) ZM,a (λq d=>h q (by simp [d]))]
theorem TO {t:TypeId} (K:Key P kt κ) (e:gu=none) (f:aC N d=true)
  (next: ∀b c,b=w.heap.size->c.heap.size=b+1->ZT w c->MapIs K c b []->TW P r Q N ds ops rest (ins E d none (.map (some b))) c):TW P r Q N ds ops (⟨d,.makeMap t none,ty,pos,af,gu⟩::rest) E w :=
 ek e f rfl (λa g=>by simp [execOp,Instr.makeMap])
  (next _ _ rfl ZM ((ZA).alloc ZC _) ⟨#[],0,heap_alloc_new w _,rfl⟩)
theorem EY (K:Key P kt κ) {et:TypeId} (h:P.underlying t=some (.map kt et)) {zv:Value} (e:(P.info? et).bind (·.zero)=some zv) {m:List (κ×Value)} (hm:MapIs K w b m) (k:κ) :
  (Instr.lookup t (.map (some b)) (K.enc k) false).run P w= .ok ((FC K m k).getD zv) w:=by
 obtain ⟨f,l,n,o⟩:=hm;obtain ⟨q,g,c,_⟩:=lZ K k m f.toList 0 o
 cases d:P.info? et with
 | none=>simp [d] at e
 | some i =>
  simp [d] at e;have a:(getObj b).run P w= .ok (.map f l) w:=by simp [getObj,Sem.run,n]
  cases q with
  | none =>
   simp [Instr.lookup,run_underlying h,a,K.ok,Instr.findKey,run_underlying K.und,g,zeroValue,typeInfo,d,e,<-c]
  | some p =>
   simp [Instr.lookup,run_underlying h,a,K.ok,Instr.findKey,run_underlying K.und,g,<-c]
theorem Oa (K:Key P kt κ) {t et:TypeId} {zv:Value} {b:Nat} {m:List (κ×Value)} {k:κ} (a:P.underlying t=some (.map kt et)) (c:(P.info? et).bind (·.zero)=some zv) (e:ρ x= .map (some b)) (f:ρ y=K.enc k) (hm:MapIs K w b m) :
  (execOp ρ ⟨d,.lookup t x y false,ty,pos,af,gu⟩).run P w= .ok (.value ((FC K m k).getD zv)) w:=by
 simp only [execOp]; rw [e,f]; simp [EY K a c hm k]
theorem Ug (K:Key P kt κ) {t et:TypeId} {zv v:Value} {b:Nat} {m:List (κ×Value)} (k:κ) (e:gd ops E gu=some G) (f:aC N d=true) (g:P.underlying t=some (.map kt et)) (h:(P.info? et).bind (·.zero)=some zv)
  (i:ev E x=some (cx,.map (some b))) (j:aF G->aF cx) (l:ev E y=some (cy,K.enc k)) (n:aF G->aF cy) (hm:MapIs K w b m) (o:(FC K m k).getD zv=v)
  (next:TW P r Q N ds ops rest (ins E d G v) w):TW P r Q N ds ops (⟨d,.lookup t x y false,ty,pos,af,gu⟩::rest) E w :=
 fZ e f rfl (λa _ c=>by rw [<-o]; exact Oa K g h (c.eval i (j a)) (c.eval l (n a)) hm) next
theorem QJ (K:Key P kt κ) {t et:TypeId} {b:Nat} {m:List (κ×Value)} (k:κ) {vz:Value} (hg:gu=none) (ht:P.underlying t=some (.map kt et))
  (hx:ev E x=some (none,.map (some b))) (hy:ev E y=some (none,K.enc k)) (hz:ev E z=some (none,vz)) (hm:MapIs K w b m)
  (next: ∀L,L.heap.size=w.heap.size->w.grownBy L (some b)->MapIs K L b (CF K m k vz)->TW P r Q N ds ops rest E L):TW P r Q N ds ops (⟨none,.mapUpdate t x y z,ty,pos,af,gu⟩::rest) E w:=by
 obtain ⟨f,H,U,B⟩:=id hm;obtain ⟨rr,W,a0,v,A⟩:=lZ K k m f.toList 0 B;have M:=hm.lt;have n:(getObj b).run P w= .ok (.map f H) w:=by simp [getObj,Sem.run,U]
 have q: ∀o,(setObj b o).run P w= .ok () {w with heap:=w.heap.setIfInBounds b o}:=λo=>by simp [setObj,Sem.run,U]
 have C: ∀(c:Array MapEntry) (g:Nat),(Instr.mapUpdate t (.map (some b)) (K.enc k) vz).run P w= .ok () {w with heap:=w.heap.setIfInBounds b (.map c g)} ->
   c.toList.map (λe=>(e.key,e.val))=(CF K m k vz).map (λp=>(K.enc p.1,p.2))->TW P r Q N ds ops (⟨none,.mapUpdate t x y z,ty,pos,af,gu⟩::rest) E w:=by
  intro c g D O;refine mr (w':= {w with heap:=w.heap.setIfInBounds b (.map c g)}) hg rfl rfl (λa R=> ?_) (next _ ZM ⟨rfl,rfl,rfl,ZM,λi I S=> ?_⟩ ⟨c,g,by simp [M],O⟩)
  .simp only [execOp]; rw [R.eval hx trivial,R.eval hy trivial,R.eval hz trivial]; simp [D]
  .have:b≠i:=λe=>S (by rw [e]);simp [Array.getElem?_setIfInBounds_ne this]
 cases rr with
 | none =>
  refine C (f.push {key:=K.enc k,val:=vz,born:=H}) (H+1) ?_ ?_
  .simp [Instr.mapUpdate,run_underlying ht,n,K.ok,Instr.findKey,run_underlying K.und,W,q]
  .rw [My K vz (v rfl)]; simp [B]
 | some p =>
  obtain ⟨j,u⟩:=p;obtain ⟨j',Y,J,h3,h4⟩:=A j u rfl;simp only [Nat.zero_add] at Y;subst Y;have Z:f.toList.length=m.length:=by have:=congrArg List.length B; simpa using this
  have h:j<f.size:=by simpa using (show j<f.toList.length by omega)
  have s:f[j].key=K.enc (m[j].1):=by
   have:=congrArg (λl=>l[j]?) B;simp [h,J] at this;exact this.1
  have d:=K.bits k (m[j].1) (h3 J);refine C (f.modify j λe=> {e with key:=K.enc k,val:=vz}) H ?_ ?_
  .simp only [Instr.mapUpdate];simp [run_underlying ht,n,K.ok,Instr.findKey,run_underlying K.und,W,Instr.keyThatStays,h,s,d,q]
  .rw [h4 vz];apply List.ext_getElem?;intro i;have I:=congrArg (λl=>l[i]?) B;simp only [List.getElem?_map,Array.getElem?_toList,Array.getElem?_modify];by_cases F:j=i
   .subst F;simp [h,Nat.min_eq_left (Nat.le_of_lt J)]
   .rw [if_neg F];rcases ZI i j with G|a2
    .rw [List.getElem?_append_left ZO];rw [List.getElem?_take_of_lt G];simpa using I
    .rw [List.getElem?_append_right ZO];have e1:i-(m.take j).length=(i-j-1)+1:=ZO;rw [e1,List.getElem?_cons_succ,List.getElem?_drop];have e2:j+1+(i-j-1)=i:=ZJ;rw [e2];simpa using I
def U7:Value->Value->Bool
 | .int _ a,.int _ b=>a==b
 | .bool a,.bool b=>a==b
 | .string a,.string b=>a.toList==b.toList
 | _,_=>false
def Nh:TypeDesc->Value->Bool
 | .int k,.int k' _=>decide (k=k')
 | .bool,.bool _=>true
 | .string,.string _=>true
 | _,_=>false
def yw:List Value->List Value->Bool
 | [],[]=>true
 | x::xs,y::ys=>U7 x y&&yw xs ys
 | _,_=>false
def qZ (P:Program):List Field->Nat->List Value->List Value->Bool
 | [],_,[],[]=>true
 | f::fs,i,x::xs,y::ys=>match P.underlying f.type with
  | some dsc=>Nat.beq f.offset i&&(f.name != "_") && Nh dsc x && Nh dsc y && qZ P fs (i + 1) xs ys
  | none=>false
 | _,_,_,_=>false
theorem lW (n:Nat) (X Y:Array Value): ∀(e:List Field) (i:Nat) (a b:List Value),qZ P e i a b=true->(∀j v,a[j]?=some v->X[i+j]?=some v)->(∀j v,b[j]?=some v->Y[i+j]?=some v) ->
  (Op.eqFields (n+1) X Y e).run P w= .ok (yw a b) w
 | [],i,a,b,h,_,_=>by
  cases a<;>cases b<;>simp [qZ] at h
  simp [Op.eqFields,yw]
 | f::e,i,[],b,h,_,_=>by simp [qZ] at h
 | f::e,i,x::a,[],h,_,_=>by simp [qZ] at h
 | f::e,i,x::a,y::b,h,u,z=>by
  simp only [qZ] at h
  split at h
  .rename_i g l;simp only [Bool.and_eq_true] at h;obtain ⟨⟨⟨⟨D,E⟩,m⟩,A⟩,F⟩:=h;have B:=Nat.eq_of_beq_eq_true D;have d:f.name≠ "_" := by simpa using E
   have G:=lW n X Y e (i+1) a b F (λj v o=>by have:=u (j+1) v (by simpa using o); rwa [show i+(j+1)=i+1+j by omega] at this)
    (λj v o=>by have:=z (j+1) v (by simpa using o); rwa [show i+(j+1)=i+1+j by omega] at this)
   have p:X[f.offset]?=some x:=by rw [B]; exact u 0 x rfl
   have q:Y[f.offset]?=some y:=by rw [B]; exact z 0 y rfl
   have c:(isAgg f.type).run P w= .ok false w:=by
    cases g<;>first|(simp [Nh] at m; done)|simp [isAgg,run_underlying l]
   have r:(part f.type X f.offset).run P w= .ok x w:=by simp [part,c,p]
   have s:(part f.type Y f.offset).run P w= .ok y w:=by simp [part,c,q]
   have t:(Op.equalIn (n+1) f.type x y).run P w= .ok (U7 x y) w:=by
    cases g<;>cases x<;>first|(simp [Nh] at m; done)|skip
    all_goals cases y<;>first|(simp [Nh] at A; done)|skip
    .exact run_equalIn_bool w n _ _ _ l
    .rename_i k H L I M;have J:=of_decide_eq_true m;have K:=of_decide_eq_true A;subst J; subst K;exact run_equalIn_int w n _ _ _ _ _ l
    .exact run_equalIn_string w n _ _ _ l
   simp only [Op.eqFields,Sem.run_bind,if_pos d,r,s,t,Result.andThen_ok]
   cases C:U7 x y with
   | false=>simp [yw,C]
   | true=>simp [yw,C,G]
  .cases h
def Dp (P:Program) (t:TypeId) (xs ys:List Value):Bool:=match P.underlying t with
 | some (.struct fs)=> !P.stoodInHeld t&& !P.eqGuardType P.depth t&&qZ P fs.toList 0 xs ys
 | _=>false
theorem mP {ys:List Value} (h:Dp P t xs ys=true):(Op.equalIn 10000 t (.agg xs.toArray) (.agg ys.toArray)).run P w= .ok (yw xs ys) w/\P.eqGuardType P.depth t=false:=by
 unfold Dp at h
 split at h
 .rename_i c d;simp only [Bool.and_eq_true,Bool.not_eq_true'] at h;obtain ⟨⟨e,f⟩,g⟩:=h;have a:P.fieldsOf t=c:=by simp [Program.fieldsOf,d]
  refine ⟨?_,f⟩;rw [show (10000:Nat)=9999+1 from rfl,run_equalIn_struct w 9999 t _ _ (by rw [a]; exact d) e,a];exact lW 9998 _ _ c.toList 0 xs ys g (λj v b=>by simpa using b) (λj v b=>by simpa using b)
 .cases h
theorem N9 {t':TypeId} {ys:List Value} (h:Dp P t xs ys=true) (c:ρ x= .agg xs.toArray) (e:ρ y= .agg ys.toArray):(execOp ρ ⟨d,.binOp .neq t x y t',ty,pos,af,gu⟩).run P w= .ok (.value (.bool (!yw xs ys))) w:=by
 obtain ⟨a,b⟩:=mP (w:=w) h;simp only [execOp]; rw [c,e];simp only [Sem.run_bind,run_eqGuard_agg w .neq t x y _ _ b,Result.andThen_ok,run_neq_struct,a,Sem.run_pure]
theorem Wh {t t':TypeId} {xs ys:List Value} (c:gd ops E gu=some G) (e:aC N d=true) (f:ev E x=some (cx,.agg xs.toArray)) (g:aF G->aF cx) (i:ev E y=some (cy,.agg ys.toArray)) (j:aF G->aF cy) (h:Dp P t xs ys=true)
  (next:TW P r Q N ds ops rest (ins E d G (.bool (!yw xs ys))) w):TW P r Q N ds ops (⟨d,.binOp .neq t x y t',ty,pos,af,gu⟩::rest) E w :=
 fZ c e rfl (λa _ b=>N9 h (b.eval f (g a)) (b.eval i (j a))) next
theorem QT {t t':TypeId} {xs ys:List Value} (c:fD ops D gu=some G) (e:aC N d=true) (f:dev D x=some (cx,.ex (.agg xs.toArray))) (g:aF G->aF cx) (i:dev D y=some (cy,.ex (.agg ys.toArray))) (j:aF G->aF cy) (h:Dp P t xs ys=true)
  (next:DW P N ds md ops w Fin rest (bE D d G (.ex (.bool (!yw xs ys))))):DW P N ds md ops w Fin (⟨d,.binOp .neq t x y t',ty,pos,af,gu⟩::rest) D :=
 jw c e rfl (λa _ _ _ b=>N9 h (b.eval f ZQ (g a)) (b.eval i ZQ (j a))) next
theorem il {k:FuncId} {xs:List Operand} {u:Value} (n:gd ops E gu=some G) (i:aC N d=true) (he:enters P k=true)
  (p:ev E f=some (cf,.func (.func k) #[] cap.toArray)) (q:aF G->aF cf) (s:Args N ds E G xs vs) (t:aF G->Gives P k (vs++cap).toArray w λv c=>ZT w c/\v=u)
  (next: ∀c,ZT w c->TW P r Q N ds ops rest (ins E d G u) c):TW P r Q N ds ops (⟨d,.call ⟨.value f,xs.toArray,ts⟩,ty,pos,af,gu⟩::rest) E w:=by
 intro a g;obtain ⟨j,l⟩:=kQ (o:=⟨d,.call ⟨.value f,xs.toArray,ts⟩,ty,pos,af,gu⟩) g n;unfold wpListIn;by_cases b:aF G
 .rw [if_pos (j b)];refine ⟨λ_ _=>trivial,?_⟩;rw [jc rfl,lK he (g.eval p (q b)) (s a g b)];refine ⟨λh=>by simp [Fence.wide] at h,?_⟩;refine CallsIn.mono (jQ (t b)) ?_;rintro e c ⟨v,rfl,m,rfl⟩;exact next c m _ (g.put i (λ_=>rfl) (λh=>absurd b h))
 .rw [if_neg (by rw [l b]; simp)];exact ⟨λ_ _=>trivial,next w ZA _ (g.put i (λh=>absurd h b) (λ_=>rfl))⟩
end
end
section
def ctl:Obj->Bool
 | .loop _| .deferred _| .mapIter .. | .stringIter .. =>true
 | _=>false
structure ExtF (n:Nat) (w w':World):Prop where
 os:w'.os=w.os
 tape:w'.tape=w.tape
 output:w'.output=w.output
 size:w.heap.size<=w'.heap.size
 block: ∀(k:Nat) (o:Obj),w.heap[k]?=some o->(k<n\/ctl o=false)->w'.heap[k]?=some o
theorem ExtF.refl (n:Nat) (w:World):ExtF n w w:=⟨rfl,rfl,rfl,ZC,λ_ _ h _=>h⟩
theorem ExtF.trans {n:Nat} {a b c:World} (h:ExtF n a b) (k:ExtF n b c):ExtF n a c :=
 ⟨k.os.trans h.os,k.tape.trans h.tape,k.output.trans h.output,Nat.le_trans h.size k.size,λi o e d=>k.block i o (h.block i o e d) d⟩
theorem ExtF.less {n':Nat} {a b:World} (h:ExtF n' a b) (hn:n<=n'):ExtF n a b :=
 ⟨h.os,h.tape,h.output,h.size,λi o c d=>h.block i o c (d.imp (λh=>ZJ) id)⟩
theorem ExtF.of_below {a b:World} (h:ZT a b):ExtF n a b :=
 ⟨h.os,h.tape,h.output,h.size,λi o c _=>(h.block i (Array.getElem?_eq_some_iff.1 c).1).trans c⟩
theorem ExtF.putObj {n l:Nat} {w:World} {o o':Obj} (h:w.heap[l]?=some o) (c:ctl o=true) (hn:n<=l):ExtF n w (w.putObj l o'):=by
 refine ⟨rfl,rfl,rfl,ZM,λk p b a=> ?_⟩;by_cases e:l=k
 .subst e;rw [h] at b;simp only [Option.some.injEq] at b;subst b;rcases a with a|a
  .omega
  .rw [c] at a; cases a
 .exact (World.putObj_heap_other ZJ).trans b
theorem ExtF.below {w0:World} (h:Below n w0 w) (k:ExtF n w w') (hn:n<=w0.heap.size):Below n w0 w' :=
 ⟨k.os.trans h.os,k.tape.trans h.tape,k.output.trans h.output,Nat.le_trans h.size k.size,λi b=>by
  have c:=h.block i b;have a:i<w0.heap.size:=ZJ;have e:=Array.getElem?_eq_getElem a;rw [e] at c ⊢;exact k.block i _ c (.inl b)⟩
theorem ExtF.kept (k:ExtF n w w'):Kept F w w':=λp v _ a=>by
 unfold World.cell? at a ⊢
 split at a
 .rename_i c e d b;rw [k.block _ _ b (.inr rfl)];exact a
 .cases a
theorem Blk.ext (h:Blk w g t cs) (k:ExtF n w w'):Blk w' g t cs:=k.block g _ h (.inr rfl)
theorem SL.ext {T:Ty α} {l:List α} (h:SL T F w v l) (k:ExtF n w w'):SL T F w' v l:=h.mono k.kept
theorem OwnS.ext {m:Nat} (h:OwnS w e sz v n xs) (k:ExtF m w w'):OwnS w' e sz v n xs:=by
 refine ⟨h.1,?_⟩;rcases h.2 with c|⟨g,a,b,d,f,i,j⟩
 .exact .inl c
 .exact .inr ⟨g,a,b,d,f,k.block g _ i (.inr rfl),j⟩
theorem MapIs.ext {P:Program} {κ:Type} {K:Key P kt κ} {m:List (κ×Value)} (h:MapIs K w b m) (k:ExtF n w w'):MapIs K w' b m:=by
 obtain ⟨a,c,d,e⟩:=h;exact ⟨a,c,k.block b _ d (.inr rfl),e⟩
def Yields (P:Program) (l:Nat) (args:Array Value) (W:World) (R:Bool->World->Prop):Prop :=
 ∃ fn tmps assign body,(Instr.yield l args).run P W= .ok (.round l fn tmps assign body) W/\RoundIn (FR none) 0 P l fn tmps assign body W (λe W'=> ∃b,e= .returned (.bool b)/\R b W')
theorem Yields.mono {P:Program} {l:Nat} {args:Array Value} {W:World} {R R':Bool->World->Prop} (h:Yields P l args W R) (n: ∀b f,R b f->R' b f):Yields P l args W R':=by
 obtain ⟨g,c,a,d,i,j⟩:=h;exact ⟨g,c,a,d,i,j.mono λe f ⟨b,k,m⟩=>⟨b,k,n b f m⟩⟩
structure Rnd {α:Type} (l:Nat) (J Jx:List α->(Nat->Prop)->World->Prop) (pre:List α) (M:Nat->Prop) (W:World) (b:Bool) (W':World):Prop where
 size:W.heap.size<=W'.heap.size
 kept: ∀k,k<W.heap.size-> ¬M k->k≠l->W'.heap[k]?=W.heap[k]?
 yes:b=true-> ∃M',J pre M' W'/\ ∀k,M' k->(M k\/W.heap.size<=k)/\k<W'.heap.size
 no:b=false-> ∃M',Jx pre M' W'
def IterOK {α:Type} (P:Program) (gf:FuncId) (cap:List Value) (enc:α->List Value) (Pos:List α->α->Prop) (Done:List α->Prop) (own:Nat->Prop) (w0:World):Prop :=
 ∀ (l:Nat) (J Jx:List α->(Nat->Prop)->World->Prop) (W:World) (M:Nat->Prop),
  (∀k,own k->k<w0.heap.size->W.heap[k]?=w0.heap[k]?)->w0.heap.size<=W.heap.size->l<W.heap.size->(∀k,own k-> ¬M k/\k≠l)->(∀k,M k->k<W.heap.size) ->
  (∀pre M W1 W2,J pre M W1->ExtF W.heap.size W1 W2->J pre M W2)->(∀pre M W1 W2,Jx pre M W1->ExtF W.heap.size W1 W2->Jx pre M W2) ->
  (∀pre x M W1,J pre M W1->Pos pre x->(∀k,M k->k<W1.heap.size)->l<W1.heap.size->Yields P l (enc x).toArray W1 (Rnd l J Jx (pre++ [x]) M W1)) ->
  J [] M W ->
  Gives P gf (.func (.yield l) #[] #[]::cap).toArray W λ_ W'=>(∃xs M',Done xs/\J xs M' W')\/(∃pre M',Jx pre M' W')
section
variable {P:Program} {r:Option Nat} {Q:Exit->Act->World->Prop} {N:Nat} {ds:List Deferred} {ops rest:List Oper} {E:Env} {w:World} {G:Option Bool}
variable {d:Option Tmp} {ty:TypeId} {pos:String} {af:Array Edge} {gu:Option (Nat×Bool)}
theorem kE {l:Nat} {xs:List Operand} (u:gu=none) (v:aC N d=true) (x:ev E f=some (none,.func (.yield l) #[] #[])) (y:Args N ds E none xs vs)
  (z:Yields P l vs.toArray w R) (next: ∀b o,R b o->TW P r Q N ds ops rest (ins E d none (.bool b)) o):TW P r Q N ds ops (⟨d,.call ⟨.value f,xs.toArray,ts⟩,ty,pos,af,gu⟩::rest) E w:=by
 intro a k;obtain ⟨n,g,c,i,p,q⟩:=z;unfold wpListIn;rw [if_pos (by simp [Region.wanted,u])];refine ⟨λ_ _=>trivial,?_⟩;have j:(execOp a.eval ⟨d,.call ⟨.value f,xs.toArray,ts⟩,ty,pos,af,gu⟩).run P w= .ok (.round l n g c i) w:=by
  simp [execOp,resolve,k.eval x trivial,y a k trivial,Deferred.ofValue,invoke,p]
 rw [jc rfl,j];refine ⟨λh=>by simp [Fence.wide] at h,?_⟩;have s:=q;refine s.mono ?_;rintro e m ⟨b,rfl,t⟩;exact next b m t _ (k.put v (λ_=>rfl) (λh=>absurd trivial h))
def FU (E:Env):List Tmp->List Value->Env
 | t::ts,v::vs=>FU ((t,none,v)::E) ts vs
 | _,_=>E
theorem Dq: ∀(ts:List Tmp) (vs:List Value) (E:Env) (tmps:Array Value),Fit N [] E {tmps:=tmps,defers:= []}->ts.all (λt=>Nat.blt t N)=true ->
  Fit N [] (FU E ts vs) {tmps:=(ts.zip vs).foldl (λt (p,v)=>t.setIfInBounds p v) tmps,defers:= []}
 | [],vs,E,tmps,h,_=>by simpa [FU] using h
 | t::ts,[],E,tmps,h,_=>by simpa [FU] using h
 | t::ts,v::vs,E,tmps,h,ht=>by
  simp only [List.all_cons,Bool.and_eq_true] at ht;exact Dq ts vs _ _ (h.put (d:=some t) ht.1 (λ_=>rfl) (λh=>absurd trivial h)) ht.2
def RecIs (N:Nat) (E:Env) (ps:List Tmp) (assign body:Code) (D:Nat) (W:World) (L:Nat) (st:LoopState) (pe:Option Code):Prop :=
 ∃ fn tmps,Fit N [] E {tmps:=tmps,defers:= []}/\W.heap[L]?=some (.loop {state:=st,pending:=pe,fn:=fn,tmps:=tmps,params:=ps.toArray,assign:=assign,body:=body,defers:=D})
def nH (P:Program) (L:Nat) (R:Bool->World->Prop):Exit->Act->World->Prop:=roundPost P L (λe W'=> ∃b,e= .returned (.bool b)/\R b W')
theorem oq (l:RecIs N E ps assign body D W L .ready none) (hl:vs.length=ps.length) (c:ps.all (λt=>Nat.blt t N)=true)
  (h:CW P (some L) (Exit.then (λj k=> ∃d,(Instr.beginRound L).run P k= .ok () d/\body.wpIn (FR (some L)) 0 P (nH P L R) j d) (λ_ _ _=>False)) N [] assign (FU E ps vs) W):Yields P L vs.toArray W R:=by
 obtain ⟨f,b,g,i⟩:=l;refine ⟨f,_,assign,body,run_yield i (by simpa using hl),?_⟩;refine roundIn_of_wpIn trivial ?_;have:=h _ (Dq ps vs E b g c);have e:(ps.toArray.zip vs.toArray).foldl (λb (t,a)=>b.setIfInBounds t a) b=(ps.zip vs).foldl (λt (p,v)=>t.setIfInBounds p v) b:=ZM;rw [e];exact this
theorem ni {E':Env} (n:RecIs N E ps assign body D W L .ready none)
  (h: ∀b,ExtF L W b->b.heap.size=W.heap.size->(∀k,k≠L->b.heap[k]?=W.heap[k]?)->RecIs N E ps assign body D b L .busy none->CW P (some L) (nH P L R) N [] body E' b) :
  KW N [] (Exit.then (λf g=> ∃b,(Instr.beginRound L).run P g= .ok () b/\body.wpIn (FR (some L)) 0 P (nH P L R) f b) (λ_ _ _=>False) .normal) E' W:=by
 intro a i;obtain ⟨j,c,l,d⟩:=n;refine ⟨_,run_beginRound d rfl,?_⟩;have e:=(Array.getElem?_eq_some_iff.1 d).1;exact h _ (ExtF.putObj d rfl ZC) ZM (λk m=>World.putObj_heap_other m) ⟨j,c,l,World.putObj_heap_same e⟩ a i
theorem my {E':Env} {st:LoopState} (j:RecIs N E ps assign body D W L st pe)
  (h: ∀c,ExtF L W c->c.heap.size=W.heap.size->(∀k,k≠L->c.heap[k]?=W.heap[k]?)->RecIs N E ps assign body D c L .ready none->R true c):KW N [] (nH P L R .normal) E' W:=by
 intro a _;obtain ⟨f,b,g,d⟩:=j;have e:=(Array.getElem?_eq_some_iff.1 d).1;exact ⟨_,_,run_endRound none d,true,rfl,h _ (ExtF.putObj d rfl ZC) ZM (λk i=>World.putObj_heap_other i) ⟨f,b,g,World.putObj_heap_same e⟩⟩
theorem IJ {E':Env} {st:LoopState} (j:RecIs N E ps assign body D W L st pe)
  (h: ∀c,ExtF L W c->c.heap.size=W.heap.size->(∀k,k≠L->c.heap[k]?=W.heap[k]?)->RecIs N E ps assign body D c L .done (some .ret)->R false c):KW N [] (nH P L R .ret) E' W:=by
 intro a _;obtain ⟨f,b,g,d⟩:=j;have e:=(Array.getElem?_eq_some_iff.1 d).1;exact ⟨_,_,run_endRound (some .ret) d,false,rfl,h _ (ExtF.putObj d rfl ZC) ZM (λk i=>World.putObj_heap_other i) ⟨f,b,g,World.putObj_heap_same e⟩⟩
theorem RecIs.ext {W':World} {st:LoopState} (e:RecIs N E ps assign body D W L st pe) (h:ExtF n W W') (hn:L<n):RecIs N E ps assign body D W' L st pe:=by
 obtain ⟨b,a,c,d⟩:=e;exact ⟨b,a,c,h.block L _ d (.inl hn)⟩
theorem RecIs.kept {W':World} {st:LoopState} (e:RecIs N E ps assign body D W L st pe) (h:W'.heap[L]?=W.heap[L]?):RecIs N E ps assign body D W' L st pe:=by
 obtain ⟨b,a,c,d⟩:=e;exact ⟨b,a,c,h.trans d⟩
theorem RecIs.lt {st:LoopState} (c:RecIs N E ps assign body D W L st pe):L<W.heap.size:=by
 obtain ⟨d,a,e,b⟩:=c;exact (Array.getElem?_eq_some_iff.1 b).1
theorem EB {g:Operand} {gf:FuncId} {enc:α->List Value} {Pos:List α->α->Prop} {Done:List α->Prop} {own:Nat->Prop}
  (hg:ev E g=some (none,.func (.func gf) #[] cap.toArray)) (he:enters P gf=true) (aa:IterOK P gf cap enc Pos Done own w) (ab:ps.all (λt=>Nat.blt t N)=true) (Z: ∀x,(enc x).length=ps.length)
  (J:List α->(Nat->Prop)->World->Prop) (K:Code->List α->(Nat->Prop)->World->Prop) (M:Nat->Prop) (hM: ∀k,M k->k<w.heap.size/\ ¬own k) (a0: ∀k,own k->k<w.heap.size)
  (hJ: ∀d M f n,J d M f->ExtF w.heap.size f n->J d M n) (a2: ∀c d M f n,K c d M f->ExtF w.heap.size f n->K c d M n) (h0:J [] M w)
  (G: ∀D L d x M W,w.heap.size<=D->D<L->J d M W->Pos d x->(∀k,M k->k<W.heap.size)-> ¬M L-> ¬M D->RecIs N E ps assign body D W L .ready none ->
   CW P (some L) (Exit.then (λa1 f=> ∃n,(Instr.beginRound L).run P f= .ok () n /\
    body.wpIn (FR (some L)) 0 P (nH P L (Rnd L (λd i l=>J d i l/\ ¬i L/\ ¬i D/\RecIs N E ps assign body D l L .ready none) (λd i l=> ∃c,K c d i l/\RecIs N E ps assign body D l L .done (some c)) (d++ [x]) M W)) a1 n) (λ_ _ _=>False)) N [] assign (FU E ps (enc x)) W)
  (a3: ∀D xs M W,w.heap.size<=D->Done xs->J xs M W->W.heap[D]?=some (.deferred (some []))->KW N ({target:= .collected D,args:= #[]}::ds) (Q .normal) E W)
  (a4: ∀D c d M W,w.heap.size<=D->K c d M W->W.heap[D]?=some (.deferred (some []))->CW P none Q N ({target:= .collected D,args:= #[]}::ds) c E W) :
  CW P none Q N ds (.rangeFunc g ps.toArray assign body) E w:=by
 intro a p;refine wpIn_rangeFunc λfn _=> ?_;obtain ⟨f,m⟩: ∃f,(w.alloc (.deferred (some []))).alloc (.loop {state:= .ready,pending:=none,fn:=fn,tmps:=a.tmps,params:=ps.toArray,assign:=assign,body:=body,defers:=w.heap.size})=f:=⟨_,rfl⟩;have ac:f.heap.size=w.heap.size+2:=by rw [<-m]; simp
 have a5:f.heap[w.heap.size+1]?=some (.loop {state:= .ready,pending:=none,fn:=fn,tmps:=a.tmps,params:=ps.toArray,assign:=assign,body:=body,defers:=w.heap.size}):=by
  rw [<-m]; have:=World.alloc_heap_new (w.alloc (.deferred (some []))) (.loop {state:= .ready,pending:=none,fn:=fn,tmps:=a.tmps,params:=ps.toArray,assign:=assign,body:=body,defers:=w.heap.size}); rwa [World.size_alloc] at this
 have a6:f.heap[w.heap.size]?=some (.deferred (some [])):=by
  rw [<-m]; exact (Below.heap_alloc _ _ _ ZM).trans (World.alloc_heap_new w _)
 have O:ZT w f:=by
  rw [<-m]; exact ((Below.refl _ w).alloc ZC _).alloc ZM _
 have S:RecIs N E ps assign body w.heap.size f (w.heap.size+1) .ready none:=⟨fn,a.tmps,⟨p.size,rfl,p.slots⟩,a5⟩
 let J':List α->(Nat->Prop)->World->Prop:=λd M W=>(J d M W/\ ¬M (w.heap.size+1)/\ ¬M w.heap.size/\RecIs N E ps assign body w.heap.size W (w.heap.size+1) .ready none)/\W.heap[w.heap.size]?=some (.deferred (some []))
 let a7:List α->(Nat->Prop)->World->Prop:=λd M W=>(∃c,K c d M W/\RecIs N E ps assign body w.heap.size W (w.heap.size+1) .done (some c))/\W.heap[w.heap.size]?=some (.deferred (some []))
 have y:=λk z=>(hM k z).1;have q:=aa (w.heap.size+1) J' a7 f M (λk z r=>O.block k r) ZJ ZJ
  (λk z=>⟨λA=>(hM k A).2 z,by have:=a0 k z; omega⟩) (λk z=>by have:=y k z; omega)
  (λd M Wa Wb ⟨⟨s,H,I,h4⟩,o⟩ B=>⟨⟨hJ _ _ _ _ s (B.less ZJ),H,I,h4.ext B ZJ⟩,B.block _ _ o (.inl ZJ)⟩)
  (λd M Wa Wb ⟨⟨c,s,H⟩,o⟩ B=>⟨⟨c,a2 _ _ _ _ _ s (B.less ZJ),H.ext B ZJ⟩,B.block _ _ o (.inl ZJ)⟩)
  (λd x M2 Wa ⟨⟨s,H,I,h4⟩,o⟩ U Y r=>by
   have hy:=oq h4 (Z x) ab
    (G w.heap.size (w.heap.size+1) d x M2 Wa ZC ZJ s U Y H I h4)
   refine hy.mono λb l u=>⟨u.size,u.kept,λhb=> ?_,λhb=> ?_⟩
   .obtain ⟨i,hj,A⟩:=u.yes hb;exact ⟨i,⟨hj,(u.kept _ ZJ I ZJ).trans o⟩,A⟩
   .obtain ⟨i,hj⟩:=u.no hb;exact ⟨i,hj,(u.kept _ ZJ I ZJ).trans o⟩)
  ⟨⟨hJ _ _ _ _ h0 (.of_below O),λA=>by have:=y _ A; omega,λA=>by have:=y _ A; omega,S⟩,a6⟩
 refine ⟨w.heap.size+1,[{target:= .collected w.heap.size,args:= #[]}],f,{target:= .fn (.func gf) cap.toArray,args:= #[.func (.yield (w.heap.size+1)) #[] #[]]},f,gf,
  (.func (.yield (w.heap.size+1)) #[] #[]::cap).toArray,f,?_,?_,λ_ _=>trivial,?_,λh=>by simp [Fence.wide] at h,?_⟩
 .rw [<-m]; exact run_enterLoop_outer _ _ _ _ _
 .simp only [resolve,p.eval hg trivial];simp [Deferred.ofValue,Act.eval]
 .simp [invoke,jF he]
 .refine CallsIn.mono (jQ q) ?_;rintro e n ⟨v,rfl,u⟩;rcases u with ⟨xs,i,C,⟨s,H,I,a8,F,a9,j⟩,o⟩|⟨d,i,⟨c,s,a8,F,a9,j⟩,o⟩
  .refine ⟨_,_,run_endLoop j ZM,?_⟩;refine a3 w.heap.size xs i _ ZC C (hJ _ _ _ _ s (ExtF.putObj j rfl ZJ)) ((World.putObj_heap_other ZJ).trans o) _ ⟨p.size,by simp [p.defers],p.slots⟩
  .refine ⟨_,_,run_endLoop j ZM,?_⟩;exact a4 w.heap.size c d i _ ZC (a2 _ _ _ _ _ s (ExtF.putObj j rfl ZJ)) ((World.putObj_heap_other ZJ).trans o) _ ⟨p.size,by simp [p.defers],p.slots⟩
variable {fn:Func} {R:Value->World->Prop}
theorem Sg (c: ∀(a:Act) (W:World),Fit N ({target:= .collected D,args:= #[]}:: []) E a->W=w.putObj D (.deferred none)->(results fn a.tmps).run P W= .ok v W) (g:w.heap[D]?=some (.deferred (some [])))
  (h:R v (w.putObj D (.deferred none))) (e:Exit) (he:e= .ret\/e= .normal):KW N ({target:= .collected D,args:= #[]}:: []) (bodyPostM (FR none) 0 P fn (λe d=> ∃v,e= .returned v/\R v d) e) E w:=by
 intro a f;have b:LeavesInM (FR none) 0 P fn a.tmps (λe d=> ∃v,e= .returned v/\R v d) a.defers .returning w:=by
  rw [f.defers];refine ⟨ZM,.inl ⟨D,_,rfl,run_takeDeferred g,?_⟩⟩;exact ⟨v,c a _ f rfl,v,rfl,h⟩
 rcases he with rfl|rfl
 .exact b
 .exact b
theorem LG (b:fn.results= #[.tmp s]) (hs:look E s=some (none,v)) (g:R v w):KW N [] (bodyPostM (FR none) 0 P fn (λe c=> ∃v,e= .returned v/\R v c) .ret) E w:=by
 intro a f;have d:LeavesInM (FR none) 0 P fn a.tmps (λe c=> ∃v,e= .returned v/\R v c) a.defers .returning w:=by
  rw [f.defers];exact ⟨v,by rw [results_tmp b a.tmps P w,(f.slots s none v hs).1 trivial],v,rfl,g⟩
 exact d
theorem LH (b:fn.results= #[.tmp s]) (hs:look E s=some (none,v)) (f:w.heap[D]?=some (.deferred (some []))) (g:R v (w.putObj D (.deferred none))) :
  KW N ({target:= .collected D,args:= #[]}:: []) (bodyPostM (FR none) 0 P fn (λe c=> ∃v,e= .returned v/\R v c) .ret) E w :=
 Sg (λa W d _=>by rw [results_tmp b a.tmps P W,(d.slots s none v hs).1 trivial]) f g .ret (.inl rfl)
end
end
section
variable {α:Type}
theorem add_add (a:Addr) (i j:Nat):(a.add i).add j=a.add (i+j):=by
 unfold Addr.add;by_cases b:i=0<;>by_cases c:j=0<;>simp [b,Nat.add_assoc]
theorem nN (f:α->List Value) (n:Nat): ∀(l:List α),(∀x∈l,(f x).length=n)-> ∀(i j:Nat) (x:α),l[i]?=some x->j<n->(l.flatMap f)[i*n+j]?=(f x)[j]?
 | [],_,i,j,x,a,_=>by simp at a
 | y::l,h,0,j,x,a,b=>by
  simp at a;subst a;rw [List.flatMap_cons,List.getElem?_append_left (by rw [h y ZM]; omega)]
  simp
 | y::l,h,i+1,j,x,a,b=>by
  rw [List.flatMap_cons,List.getElem?_append_right (by rw [h y ZM,Nat.succ_mul]; omega),h y ZM];have:(i+1)*n+j-n=i*n+j:=by rw [Nat.succ_mul]; omega
  rw [this];exact nN f n l (λz c=>h z (by simp [c])) i j x a b
theorem lD (f:α->List Value) (n:Nat): ∀(l:List α),(∀x∈l,(f x).length=n)->(l.flatMap f).length=l.length*n
 | [],_=>by simp
 | y::l,h=>by
  rw [List.flatMap_cons,List.length_append,h y ZM,lD f n l (λz a=>h z (by simp [a])),List.length_cons,Nat.succ_mul];omega
theorem Dn (f:α->List Value) (n:Nat) (hn:0<n) (l:List α) (h: ∀x∈l,(f x).length=n) (j:Nat) (u:Value) (hj:(l.flatMap f)[j]?=some u): ∃x,l[j / n]?=some x/\(f x)[j%n]?=some u:=by
 have a:j<l.length*n:=by rw [<-lD f n l h]; exact (ZE hj).1
 have b:=(Nat.div_lt_iff_lt_mul hn).2 a;refine ⟨l[j / n],ZD b,?_⟩;rw [<-nN f n l h (j / n) (j%n) l[j / n] (ZD b) (Nat.mod_lt _ hn)];rw [<-hj]
 congr 1
 rw [Nat.mul_comm];exact Nat.div_add_mod j n
theorem KE {T:Ty α} {l:List α} (f:α->List Value) (G: ∀x∈l,T.rep F w (f x) x) (h:OwnS w e T.n v l.length (l.flatMap f)) (H: ∀g,v.ownBlock=some g->F g) (hn:l.length<=9223372036854775807):SL T F w v l:=by
 obtain ⟨A,t,q,I,O,C⟩:=h.form;refine ⟨A,t,q,I,hn,λi x r=> ?_⟩;have b:=ZF r;have a:=λy J=>T.len _ _ _ _ (G y J);have c:=G x b;rcases Nat.eq_zero_or_pos T.n with s|s
 .-- no cells at all
  have K:=(ZE r).1;rcases h.2 with ⟨rfl,R⟩|⟨g,D,L,k,_,_,_⟩
  .omega
  .rw [k] at q;obtain ⟨rfl,_,_⟩:=q;refine ⟨⟨g,0,none⟩,f x,rfl,H g (by rw [k]; rfl),λj u m=> ?_,c⟩;have:(f x).length=0:=by rw [a x b,s]
   rw [List.eq_nil_of_length_eq_zero this] at m;simp at m
 .obtain ⟨S,z⟩: ∃u,(f x)[0]?=some u:=⟨_,ZD (by rw [a x b]; exact s)⟩;have o:=nN f T.n l a i 0 x r s;rw [z] at o;obtain ⟨g,E,p,_⟩:=C _ _ o;refine ⟨⟨g,0,none⟩,f x,E,H g p,λj u m=> ?_,c⟩;have B:j<T.n:=by rw [<-a x b]; exact (ZE m).1
  obtain ⟨U,d,_,M,_⟩:=C (i*T.n+j) u (by rw [nN f T.n l a i j x r B]; exact m);rw [E] at d;obtain ⟨rfl,_,_⟩:=d;rw [add_add];have N:Addr.add ⟨g,0,none⟩ (i*T.n+j)=⟨g,i*T.n+j,none⟩:=by unfold Addr.add; split<;>simp_all
  rw [N];exact M
theorem SL.cells {T:Ty α} {cap:Nat} {l:List α} (f:α->List Value) (r: ∀F w c x,T.rep F w c x->c=f x) (s:0<T.n) (h:SL T F w (.slice A n cap) l) (a: ∀x∈l,(f x).length=T.n) :
  ∀ j u,(l.flatMap f)[j]?=some u-> ∃b,A=some b/\w.cell? (b.add j)=some u:=by
 intro j u i;obtain ⟨t,d,e,_,_,k⟩:=h;obtain ⟨rfl,_,rfl⟩:=e;obtain ⟨x,m,o⟩:=Dn f T.n s l a j u i;obtain ⟨b,c,p,_,g,q⟩:=k _ x m;rw [r _ _ _ _ q] at g;refine ⟨b,p,?_⟩;have:=g (j%T.n) u o;rw [add_add,Nat.mul_comm,Nat.div_add_mod] at this;exact this
theorem Do (l:List Int):l.flatMap (λx=> [Value.int .i64 x])=l.map (Value.int .i64):=by
 induction l with
 | nil=>rfl
 | cons x l a=>simp [a]
theorem dO {l:List Int} (h:OwnS w e 1 v l.length (l.map (Value.int .i64))) (b: ∀x∈l,fF x) (c: ∀g,v.ownBlock=some g->F g) (hn:l.length<=9223372036854775807):SL aS F w v l :=
 KE (λx=> [Value.int .i64 x]) (λx a=>⟨rfl,b x a⟩) (by rw [Do]; exact h) c hn
theorem aU (h:Blk w g e cs) (hl:cs.length=n*sz) (hn:n<=9223372036854775807):OwnS w e sz (.slice (some ⟨g,0,none⟩) n n) n cs :=
 ⟨hl,.inr ⟨g,n,cs.toArray,rfl,ZB,h,ZC,by simp only [maxLen]; omega,by simp [hl],by simp [<-hl]⟩⟩
theorem dQ (g j:Nat):Addr.add ⟨g,0,none⟩ j=⟨g,j,none⟩:=by unfold Addr.add; split<;>simp_all
theorem OwnS.set {w:World} {e:TypeId} {sz n:Nat} {v:Value} {xs:List Value} {g:Nat} (h:OwnS w e sz v n xs) (a:v.ownBlock=some g) {j:Nat} (hj:j<xs.length) (u:Value):OwnS (w.setCell ⟨g,j,none⟩ u) e sz v n (xs.set j u):=by
 refine ⟨by simp [h.1],?_⟩;rcases h.2 with ⟨rfl,_⟩|⟨f,b,c,d,i,k,l,m,o,p⟩
 .simp [Value.ownBlock] at a
 .rw [d] at a;simp [Value.ownBlock] at a;subst a;refine .inr ⟨f,b,c.setIfInBounds j u,d,i,?_,l,m,by simp [o],?_⟩
  .simp [World.setCell,Array.getElem?_modify,k]
  .rw [<-p];simp [List.take_set]
theorem mE (w:World) (g j:Nat) (u:Value):w.grownBy (w.setCell ⟨g,j,none⟩ u) (some g) :=
 ⟨rfl,rfl,rfl,ZM,λk b a=>Below.heap_setCell w ⟨g,j,none⟩ u k (λe=>a (by rw [e]))⟩
theorem ib {a b c:World} {row:Option Nat} (h:a.grownBy b row) (k:b.grownBy c row):a.grownBy c row :=
 ⟨k.os.trans h.os,k.tape.trans h.tape,k.output.trans h.output,Nat.le_trans h.size k.size,λi e d=>(k.block i (Nat.lt_of_lt_of_le e h.size) d).trans (h.block i e d)⟩
def splice (xs:List Value) (o:Nat) (cs:List Value):List Value:=xs.take o++cs++xs.drop (o+cs.length)
theorem BQ (xs:List Value) (o:Nat) (c:Value) (cs:List Value) (h:o<xs.length):splice (xs.set o c) (o+1) cs=splice xs o (c::cs):=by
 unfold splice;have a:(xs.set o c).take (o+1)=xs.take o++ [c]:=by
  rw [ZG,List.take_set_of_le ZC];simp [h]
 have b:(xs.set o c).drop (o+1+cs.length)=xs.drop (o+(c::cs).length):=by
  rw [List.drop_set_of_lt ZJ]
  congr 1
  simp; omega
 rw [a,b];simp
theorem fC {P:Program} {e:TypeId} {sz n:Nat} {v:Value} {g:Nat} (s:v.ownBlock=some g): ∀(d:List Value) (w:World) (b:List Value) (o k:Nat),OwnS w e sz v n b->o+k+d.length<=b.length->(∀c∈d,c.oneCell'=true) ->
  ∃ j,(storeCells ⟨g,o,none⟩ d k).run P w= .ok () j/\OwnS j e sz v n (splice b (o+k) d)/\w.grownBy j (some g)/\j.heap.size=w.heap.size
 | [],w,b,o,k,h,t,_=>⟨w,by simp [storeCells],by simpa [splice] using h,⟨rfl,rfl,rfl,ZC,λ_ _ _=>rfl⟩,rfl⟩
 | c::d,w,b,o,k,h,t,u=>by
  simp only [List.length_cons] at t;have f:o+k<b.length:=ZJ;obtain ⟨A,z,F,_,_,B⟩:=h.form;obtain ⟨G,H,a,i,l⟩:=B (o+k) b[o+k] (ZD f);rw [s] at a;simp only [Option.some.injEq] at a;subst a;have C:Addr.add ⟨g,o,none⟩ k=⟨g,o+k,none⟩:=by unfold Addr.add; split<;>simp_all
  have m:(store (Addr.add ⟨g,o,none⟩ k) c).run P w= .ok () (w.setCell ⟨g,o+k,none⟩ c):=by
   rw [C,run_store P w _ c .plain (u c ZM)];simp [i,l]
  obtain ⟨j,D,x,p,q⟩:=fC (P:=P) s d (w.setCell ⟨g,o+k,none⟩ c) (b.set (o+k) c) o (k+1) (h.set s f c) ZO (λE r=>u E (by simp [r]));refine ⟨j,?_,?_,ib (mE w g (o+k) c) p,by rw [q]; simp⟩
  .simp only [storeCells,Sem.run_bind,m,Result.andThen_ok,D]
  .rw [show o+(k+1)=(o+k)+1 by omega,BQ b (o+k) c d f] at x;exact x
section
variable {P:Program} {r:Option Nat} {Q:Exit->Act->World->Prop} {N:Nat} {ds:List Deferred} {ops rest:List Oper} {E:Env} {w:World}
variable {ty:TypeId} {pos:String} {af:Array Edge} {gu:Option (Nat×Bool)} {x y:Operand}
theorem tH {i m:Nat} (q:gu=none) (hs:(P.info? t).map (·.size)=some m) (s:ev E x=some (none,.pointer (some (Addr.add ⟨g,0,none⟩ (i*sz))))) (u:ev E y=some (none,.agg cs.toArray)) (b:OwnS w e sz (.slice (some ⟨g,0,none⟩) n c) n xs)
  (z:i<n) (hm:cs.length=m) (A:m=sz) (h1:cs.all (·.oneCell')=true)
  (next: ∀d,OwnS d e sz (.slice (some ⟨g,0,none⟩) n c) n (splice xs (i*sz) cs)->w.grownBy d (some g)->d.heap.size=w.heap.size->TW P r Q N ds ops rest E d):TW P r Q N ds ops (⟨none,.store t x y,ty,pos,af,gu⟩::rest) E w:=by
 subst hm;have k:i*sz+sz<=xs.length:=by rw [b.1,<-Nat.succ_mul]; exact Nat.mul_le_mul_right _ z
 obtain ⟨d,l,o,f,h⟩:=fC (P:=P) rfl cs w xs (i*sz) 0 b ZJ (λc p=>List.all_eq_true.1 h1 c p);refine mr q rfl rfl (λa j=> ?_) (next d (by simpa using o) f h);simp only [execOp];rw [j.eval s trivial,j.eval u trivial];rw [dQ];simp [Instr.storeAt,Instr.sureAddr,storeVar,run_sizeOf hs,Value.cells,l]
theorem Bo {i f:Nat} {u:Value} (q:gu=none) (hs:(P.info? t).map (·.size)=some 1) (s:ev E x=some (none,.pointer (some ((Addr.add ⟨g,0,none⟩ (i*sz)).add f)))) (v:ev E y=some (none,u)) (b:OwnS w e sz (.slice (some ⟨g,0,none⟩) n c) n xs)
  (z:i<n) (D:f<sz) (h1:u.oneCell'=true)
  (next: ∀j,OwnS j e sz (.slice (some ⟨g,0,none⟩) n c) n (xs.set (i*sz+f) u)->w.grownBy j (some g)->j.heap.size=w.heap.size->TW P r Q N ds ops rest E j):TW P r Q N ds ops (⟨none,.store t x y,ty,pos,af,gu⟩::rest) E w:=by
 have m:i*sz+sz<=xs.length:=by rw [b.1,<-Nat.succ_mul]; exact Nat.mul_le_mul_right _ z
 have h:i*sz+f<xs.length:=ZJ;obtain ⟨A,o,B,_,_,p⟩:=b.form;obtain ⟨C,_,a,d,k⟩:=p (i*sz+f) _ (ZD h);simp [Value.ownBlock] at a;subst a;have l:(Addr.add ⟨g,0,none⟩ (i*sz)).add f=⟨g,i*sz+f,none⟩:=by rw [add_add,dQ]
 refine fu q hs s v (by rw [l]; exact d) (by rw [l]; exact k) h1 ?_;rw [l];exact next _ (b.set rfl h u) (mE w g _ u) ZM
end
theorem uJ (f:α->List Value) (n:Nat): ∀(l:List α),(∀x∈l,(f x).length=n)-> ∀(i:Nat) (x:α),i<l.length->(f x).length=n->splice (l.flatMap f) (i*n) (f x)=(l.set i x).flatMap f
 | [],_,i,x,a,_=>by simp at a
 | y::l,h,0,x,a,b=>by
  have c:=h y ZM;have e:((f y)++l.flatMap f).drop n=l.flatMap f:=by rw [<-c]; simp
  simp [splice,b,e]
 | y::l,h,i+1,x,a,b=>by
  have c:=h y ZM;have d:=uJ f n l (λz g=>h z (by simp [g])) i x (by simpa using a) b;unfold splice at d ⊢;simp only [List.flatMap_cons,List.set_cons_succ];have j:(i+1)*n=(f y).length+i*n:=by rw [c,Nat.succ_mul]; omega
  rw [j,List.take_length_add_append,Nat.add_assoc,List.drop_length_add_append];rw [List.append_assoc,List.append_assoc,<-d];simp
theorem mO (f:α->List Value) (n:Nat): ∀(l:List α),(∀x∈l,(f x).length=n)-> ∀(i j:Nat) (x y:α) (u:Value),l[i]?=some x->j<n->f y=(f x).set j u->(l.flatMap f).set (i*n+j) u=(l.set i y).flatMap f
 | [],_,i,j,x,y,u,a,_,_=>by simp at a
 | z::l,h,0,j,x,y,u,a,b,c=>by
  simp at a;subst a;simp only [List.flatMap_cons,List.set_cons_zero,Nat.zero_mul,Nat.zero_add]
  rw [List.set_append_left _ _ (by rw [h z ZM]; exact b),c]
 | z::l,h,i+1,j,x,y,u,a,b,c=>by
  have d:=mO f n l (λw e=>h w (by simp [e])) i j x y u a b c;simp only [List.flatMap_cons,List.set_cons_succ];have g:(i+1)*n+j=(f z).length+(i*n+j):=by rw [h z ZM,Nat.succ_mul]; omega
  rw [g,List.set_append_right _ _ ZJ,<-d]
  congr 2
  omega
end
section
section
variable {P:Program} {r:Option Nat} {Q:Exit->Act->World->Prop} {N:Nat} {ds:List Deferred} {ops rest:List Oper} {E:Env} {D:DE} {w:World} {G:Option Bool} {Fin:DE->Prop}
variable {d:Option Tmp} {ty:TypeId} {pos:String} {af:Array Edge} {gu:Option (Nat×Bool)}
variable {x y z:Operand} {cx cy cz:Option Bool} {ρ:Operand->Value}
theorem Od {t':TypeId} (a:P.underlying t=some (.slice e)) (b:ρ x= .slice A n c) (f:ρ (.const (.slice none 0 0))= .slice none 0 0):(execOp ρ ⟨d,.binOp .eql t x (.const (.slice none 0 0)) t',ty,pos,af,gu⟩).run P w= .ok (.value (.bool A.isNone)) w:=by
 simp only [execOp]; rw [b,f,eqGuard_at_slice];simp [Lib.run_eql_slice_nil w t e A n c 0 0 a]
theorem zL {t t' e:TypeId} {A:Option Addr} {n c:Nat} (g:gd ops E gu=some G) (h:aC N d=true) (i:P.underlying t=some (.slice e)) (j:ev E x=some (cx,.slice A n c)) (k:aF G->aF cx)
  (next:TW P r Q N ds ops rest (ins E d G (.bool A.isNone)) w):TW P r Q N ds ops (⟨d,.binOp .eql t x (.const (.slice none 0 0)) t',ty,pos,af,gu⟩::rest) E w :=
 fZ g h rfl (λb a f=>by have:=f.eval j (k b); exact Od i this rfl) next
theorem gI {t1:TypeId} {old:List Value} (c:gu=none) (d:ev E x=some (none,.pointer (some ⟨g,0,none⟩))) (f:ev E y=some (none,.agg cs.toArray)) (hb:Blk w g t1 old) (hs:(P.info? t).map (·.size)=some n) (hn:cs.length=n) (hl:old.length=n)
  (h1:cs.all (·.oneCell')=true) (next: ∀a,Blk a g t1 cs->w.grownBy a (some g)->a.heap.size=w.heap.size->TW P r Q N ds ops rest E a):TW P r Q N ds ops (⟨none,.store t x y,ty,pos,af,gu⟩::rest) E w:=by
 subst hn;refine pz c d f hb hs hl h1 (next _ ?_ ⟨rfl,rfl,rfl,ZM,λk h b=> ?_⟩ ZM)
 .exact setRow_heap w g old.toArray cs.toArray t1 (0,0) hb
 .have:g≠k:=λe=>b (by rw [e]);simp [World.setRow,Array.getElem?_modify,this]
theorem tJ {t1:TypeId} {old:List Value} (c:gu=none) (d:ev E x=some (none,.pointer (some ⟨g,0,none⟩))) (f:ev E y=some (none,.agg cs.toArray)) (hb:Blk w g t1 old) (hs:(P.info? t).map (·.size)=some n) (hn:cs.length=n) (hl:old.length=n)
  (h1:cs.all (·.oneCell')=true) (next: ∀a,Blk a g t1 cs->w.grownBy a (some g)->a.heap.size=w.heap.size->w.drawn<=a.drawn->TW P r Q N ds ops rest E a):TW P r Q N ds ops (⟨none,.store t x y,ty,pos,af,gu⟩::rest) E w:=by
 subst hn;refine pz c d f hb hs hl h1 (next _ ?_ ⟨rfl,rfl,rfl,ZM,λk h b=> ?_⟩ ZM ZC)
 .exact setRow_heap w g old.toArray cs.toArray t1 (0,0) hb
 .have:g≠k:=λe=>b (by rw [e]);simp [World.setRow,Array.getElem?_modify,this]
variable {fn:Func} {R:Value->World->Prop}
theorem Ca {t1:TypeId} {fs:Array Field} (b:fn.results= #[.cell s t]) (h:P.underlying t=some (.struct fs)) (hs:(P.info? t).map (·.size)=some cs.length) (hl:look E s=some (none,.pointer (some ⟨g,0,none⟩))) (i:Blk w g t1 cs) (k:R (.agg cs.toArray) w) :
  KW N [] (bodyPost P fn (λe d=> ∃v,e= .returned v/\R v d) .ret) E w:=λa c=>by
 refine bodyPost_ret ?_ c.defers ⟨_,rfl,k⟩;have e:=(c.slots s none _ hl).1 trivial;simp only [Array.getD_eq_getD_getElem?] at e;simp [results,b,e,asAddr,je h hs (λj v f=>i.fld f)]
end
def Thunk (P:Program) (w:World) (f:FuncId) (caps:List Value) (b:Bool):Prop:= ∀w',ZT w w'->Gives P f caps.toArray w' λu w''=>ZT w' w''/\u= .bool b
theorem Thunk.later {P:Program} {w1:World} {f:FuncId} {caps:List Value} {b:Bool} (h:Thunk P w f caps b) (hb:ZT w w1):Thunk P w1 f caps b:=λa c=>h a (hb.step c)
end
section
def Sats:List Ent->List Value->World->Prop
 | [],[],_=>True
 | e::es,v::vs,w=>e.sat v w/\Sats es vs w
 | _,_,_=>False
theorem Sats.one {e:Ent} (h:Sats [e] vs w): ∃a,vs= [a]/\e.sat a w:=by
 match vs,h with
 | [a],⟨b,_⟩=>exact ⟨a,rfl,b⟩
theorem Sats.two {e1 e2:Ent} (h:Sats [e1,e2] vs w): ∃a b,vs= [a,b]/\e1.sat a w/\e2.sat b w:=by
 match vs,h with
 | [a,b],⟨c,d,_⟩=>exact ⟨a,b,rfl,c,d⟩
theorem rA {e1 e2 e3:Ent} (h:Sats [e1,e2,e3] vs w): ∃a b c,vs= [a,b,c]/\e1.sat a w/\e2.sat b w/\e3.sat c w:=by
 match vs,h with
 | [a,b,c],⟨d,e,f,_⟩=>exact ⟨a,b,c,rfl,d,e,f⟩
theorem KC {e1 e2 e3 e4 e5:Ent} (h:Sats [e1,e2,e3,e4,e5] vs w): ∃a b c d e,vs= [a,b,c,d,e]/\e1.sat a w/\e2.sat b w/\e3.sat c w/\e4.sat d w/\e5.sat e w:=by
 match vs,h with
 | [a,b,c,d,e],⟨f,g,i,j,k,_⟩=>exact ⟨a,b,c,d,e,rfl,f,g,i,j,k⟩
theorem gL (p:Value->Prop):Ent.mono (.pr λv _=>p v):=λ_ _ _ _ h=>h
section
variable {P:Program} {N:Nat} {ds:List Deferred} {ops rest:List Oper} {D:DE} {w:World} {G:Option Bool} {Fin:DE->Prop}
variable {d:Option Tmp} {ty:TypeId} {pos:String} {af:Array Edge} {gu:Option (Nat×Bool)}
variable {x:Operand} {cx:Option Bool}
def PArgs (L:List Nat) (N:Nat) (ds:List Deferred) (D:DE) (G:Option Bool) (xs:List Operand) (es:List Ent):Prop:=(∀t,Operand.tmp t∈xs->t∈L)-> ∀a w,FitL N ds L D a w->aF G->Sats es (xs.map a.eval) w
theorem eO {L:List Nat}:PArgs L N ds D G [] []:=λ_ _ _ _ _=>trivial
theorem bC {L:List Nat} {xs:List Operand} {e:Ent} (g:dev D x=some (cx,e)) (i:aF G->aF cx) (h:PArgs L N ds D G xs es):PArgs L N ds D G (x::xs) (e::es):=λc a w d f =>
 ⟨d.sat g (λt b=>c t (by simp [b])) (i f),h (λt b=>c t (by simp [b])) a w d f⟩
theorem Ey {k:FuncId} {xs:List Operand} (e:Ent) (hm:e.mono) (m:fD ops D gu=some G) (n:aC N d=true) (he:enters P k=true)
  (p:dev D f=some (cf,.ex (.func (.func k) #[] cap.toArray))) (q:aF G->aF cf) (r:PArgs (Oper.looksAt ops.toArray ⟨d,.call ⟨.value f,xs.toArray,ts⟩,ty,pos,af,gu⟩) N ds D G xs es)
  (s:aF G-> ∀b,ZT w b-> ∀i,Sats es i b->Gives P k (i++cap).toArray b λv c=>ZT b c/\e.sat v c)
  (next:DW P N ds .weak ops w Fin rest (bE D d G e)):DW P N ds .weak ops w Fin (⟨d,.call ⟨.value f,xs.toArray,ts⟩,ty,pos,af,gu⟩::rest) D :=
 tO m n rfl hm (λg a b j h=>⟨_,_,lK he (h.eval p ZP (q g)) rfl,
  s g b j _ (r (λt l=>bB (by simp [Op.operands,Call.operands,l])) a b h g)⟩) next
theorem vw {i:Nat} (ψ:Value->World->Prop) (m:fD ops D gu=some G) (n:aC N d=true) (p:dev D x=some (cx,.pr φ)) (q:aF G->aF cx) (hm:Ent.mono (.pr ψ))
  (h: ∀u w,φ u w-> ∃b v,u= .tuple b/\b[i]?=some v/\ψ v w)
  (next:DW P N ds .weak ops w Fin rest (bE D d G (.pr ψ))):DW P N ds .weak ops w Fin (⟨d,.extract x i,ty,pos,af,gu⟩::rest) D:=by
 refine pG m n rfl hm (λe a c r f=> ?_) next
 have g:=f.evalP p ZQ (q e);obtain ⟨b,v,j,k,l⟩:=h _ _ g;exact ⟨v,c,uA k j,ZA,l⟩
theorem lS (g:fD ops D gu=some G) (h:aC N d=true) (i:dev D x=some (cx,.pr φ)) (j:aF G->aF cx) (hm:Ent.mono (.pr φ))
  (next:DW P N ds .weak ops w Fin rest (bE D d G (.pr φ))):DW P N ds .weak ops w Fin (⟨d,.assign x,ty,pos,af,gu⟩::rest) D:=by
 refine pG g h rfl hm (λc a b k e=> ?_) next
 have f:=e.evalP i ZQ (j c);exact ⟨_,b,by simp [execOp],ZA,f⟩
theorem OI (g:fD ops D gu=some G) (h:aC N d=true) (i:dev D x=some (cx,.pr φ)) (j:aF G->aF cx) (hm:Ent.mono (.pr φ))
  (next:DW P N ds .weak ops w Fin rest (bE D d G (.pr φ))):DW P N ds .weak ops w Fin (⟨d,.move x,ty,pos,af,gu⟩::rest) D:=by
 refine pG g h rfl hm (λc a b k e=> ?_) next
 have f:=e.evalP i ZQ (j c);exact ⟨_,b,by simp [execOp],ZA,f⟩
theorem ON (e:TypeId) {len:Nat} (xs:List Operand) (ψ:Value->World->Prop) (hm:Ent.mono (.pr ψ)) (s:fD ops D gu=some G) (u:aC N d=true) (hp:parts.toList=number xs) (he:cB P t e sz=true)
  (x:PArgs (Oper.looksAt ops.toArray ⟨d,.buildSlice t len parts,ty,pos,af,gu⟩) N ds D G xs es) (hl:len=xs.length) (k:Nat.ble (xs.length*sz) 16777216=true) (c:Nat.blt 0 xs.length=true)
  (h: ∀j w,Sats es j w->(∀v∈j,v.cells.size=sz)/\ ∀g b,Fresh w b g e (j.flatMap (λv=>v.cells.toList))->ψ (.slice (some ⟨g,0,none⟩) len len) b)
  (next:DW P N ds .weak ops w Fin rest (bE D d G (.pr ψ))):DW P N ds .weak ops w Fin (⟨d,.buildSlice t len parts,ty,pos,af,gu⟩::rest) D:=by
 refine pG s u rfl hm (λl a b y m=> ?_) next
 have n:=x (λt o=>bB ?_) a b m l
 .obtain ⟨p,q⟩:=h _ _ n;refine ⟨_,_,fK hp (by simpa using hl) he rfl p (by simpa using Nat.le_of_ble_eq_true k) (by simpa using blt_iff.1 c),(ZA).alloc ZC _,?_⟩;have:=q _ _ (gD b e _);rw [hl] at this;show ψ _ _;simpa using this
 .simp only [Op.operands];rw [hp];simp only [number,List.map_map];rw [List.mem_map];obtain ⟨i,r,f⟩:=List.getElem_of_mem o;exact ⟨(.tmp t,i),by rw [List.mem_zipIdx_iff_getElem?]; rw [ZD r,f],rfl⟩
theorem aP {r:Option Nat} {Q:Exit->Act->World->Prop} {E:Env} {op:Op} (f:gd ops E gu=some G) (g:aF G) (next:TW P r Q N ds ops (⟨d,op,ty,pos,af,none⟩::rest) E w):TW P r Q N ds ops (⟨d,op,ty,pos,af,gu⟩::rest) E w:=by
 intro a c;have b:=next a c
 have e:=(kQ (o:=⟨d,op,ty,pos,af,gu⟩) c f).1 g;unfold wpListIn at b ⊢;rw [if_pos e];exact b
def Gj (D:DE):List Nat->Option (List Ent)
 | []=>some []
 | i::is=>match bR D i with
  | some (none,e)=>match Gj D is with
   | some es=>some (e::es)
   | none=>none
  | _=>none
def EG:List Nat->List Value->Env
 | i::is,v::vs=>(i,none,v)::EG is vs
 | _,_=> []
theorem FitD.sel {a:Act} (h:FitD N ds D a w): ∀ {is:List Nat} {c:List Ent},Gj D is=some c->Sats c (is.map λi=>a.tmps.getD i undef) w
 | [],c,b=>by simp [Gj] at b; subst b; trivial
 | i::is,c,b=>by
  simp only [Gj] at b
  split at b
  .rename_i e f
   split at b
   .rename_i g d;simp only [Option.some.injEq] at b;subst b;exact ⟨(h.slots i none e f).1 trivial,h.sel d⟩
   .cases b
  .cases b
theorem FitD.zip {a:Act} (h:FitD N ds D a w) (is:List Nat):Fit N ds (EG is (is.map λi=>a.tmps.getD i undef)) a:=by
 refine ⟨h.size,h.defers,?_⟩
 induction is with
 | nil=>intro i c v b; simp [EG,look] at b
 | cons j is e =>
  intro i c v b;simp only [List.map_cons,EG,look] at b;by_cases d:j=i
  .subst d;rw [ig] at b;obtain ⟨rfl,rfl⟩:=b;exact ⟨λ_=>rfl,λh=>absurd trivial h⟩
  .rw [kF d] at b;exact e i c v b
theorem qg {K:Act->World->Prop} (is:List Nat) (hp:Gj D is=some es) (h: ∀d b,ZT w b->Sats es d b->KW N ds K (EG is d) b): ∀a b,ZT w b->FitD N ds D a b->K a b :=
 λa b e c=>h _ b e (c.sel hp) a (c.zip is)
end
end
end Go.PF
