/- Texts of this claim,joined. -/
import Derived.Test.YtoleahhfkpkcjaaGreatDoorQM
import Derived.Lib.LaidTab
set_option linter.unusedSimpArgs false
set_option linter.unusedVariables false
set_option maxRecDepth 100000
set_option maxHeartbeats 4000000
variable {w W W' w':Go.World} {F G:Nat->Prop} {s:ByteArray} {rs:List (Go.Value×List Int)} {nm:List ByteArray} {m:List (ByteArray×Go.Value)} {N:Go.Ord.Net} {b g i gm kn:Nat} {v lv:Go.Value} {α:Type} {l:List α} {T:Go.PF.Ty α} {capn cs:List Go.Value} {e:Go.TypeId} {M:Go.Ord.dL} {r:List Int} {p:Prop} {ps:List (List Go.Value×α)}
namespace Go.PF
open Go.RowKit
section
section
variable {P:Program} {r:Option Nat} {Q:Exit->Act->World->Prop} {N:Nat} {ds:List Deferred} {ops rest:List Oper} {E:Env} {w:World} {G:Option Bool}
variable {d:Option Tmp} {ty:TypeId} {pos:String} {af:Array Edge} {gu:Option (Nat×Bool)} {ρ:Operand->Value}
theorem QF {f:Operand} {k:FuncId} {fst cap:List Value} {xs:List Operand} {vs:List Value} {ts:Array TypeId} (he:enters P k=true) (b:ρ f= .func (.func k) fst.toArray cap.toArray) (c:xs.map ρ=vs) :
  (execOp ρ ⟨d,.call ⟨.value f,xs.toArray,ts⟩,ty,pos,af,gu⟩).run P w= .ok (.enter k (fst++vs++cap).toArray) w:=by
 have a:=jF he;simp [execOp,resolve,b,c,Deferred.ofValue,Go.invoke,a]
theorem Oy {f:Operand} {k:FuncId} {fst cap:List Value} {xs:List Operand} {vs:List Value} {ts:Array TypeId} {R:Value->World->Prop} (e:gu=none) (g:aC N d=true) (he:enters P k=true)
  (h:ev E f=some (none,.func (.func k) fst.toArray cap.toArray)) (i:Args N ds E none xs vs) (j:Gives P k (fst++vs++cap).toArray w R)
  (next: ∀v c,R v c->TW P r Q N ds ops rest (ins E d none v) c):TW P r Q N ds ops (⟨d,.call ⟨.value f,xs.toArray,ts⟩,ty,pos,af,gu⟩::rest) E w :=
 KB e g rfl (λa b=>QF he (b.eval h trivial) (i a b trivial)) j next
theorem Ef {fn:Fn} {fst cap:List Operand} {us vs:List Value} (a:fst.map ρ=us) (b:cap.map ρ=vs):(execOp ρ ⟨d,.makeFunc fn fst.toArray cap.toArray,ty,pos,af,gu⟩).run P w= .ok (.value (.func fn us.toArray vs.toArray)) w:=by
 simp [execOp,Instr.makeFunc,a,b]
theorem Bp {fn:Fn} {fst cap:List Operand} {us vs:List Value} (e:gd ops E gu=some G) (f:aC N d=true) (g:Args N ds E G fst us) (h:Args N ds E G cap vs)
  (next:TW P r Q N ds ops rest (ins E d G (.func fn us.toArray vs.toArray)) w):TW P r Q N ds ops (⟨d,.makeFunc fn fst.toArray cap.toArray,ty,pos,af,gu⟩::rest) E w :=
 fZ e f rfl (λb a c=>Ef (g a c b) (h a c b)) next
end
def YD (P:Program) (fv:Value) (vs:List Value) (w:World) (R:Value->World->Prop):Prop:= ∃k fst cap,fv= .func (.func k) (List.toArray fst) (List.toArray cap)/\enters P k=true/\Gives P k (fst++vs++cap).toArray w R
end
end Go.PF
namespace Go.Proofs.YtoleahhfkpkcjaaGreatDoor
open Go.Proofs.Tryz
open Go.PF Go.RowKit Go.Ord
attribute [local irreducible] TW CW KW DW
def OS (v:Value):Prop:= ∃a b c,v= .agg #[a,b,c]/\ [a,b,c].all (·.oneCell')=true
theorem _root_.Go.PF.Chg.grow {R:Nat->Prop} (h:Chg R w w') {w'':World} (a:But g w' w'') (b:R g\/w.heap.size<=g):Chg R w w'' :=
 h.trans (R':=λk=>k=g) (.of_but a λ_ e=>by cases e; rfl) λk e=>e ▸ b
theorem NF {k:FuncId} {cap:List Value} {D:ByteArray->Prop} (hm:MapL sK w gm m) (hv: ∀p∈m,OS p.2) (he:enters prog k=true)
  (hd: ∀t s v,Chg (λk=>k=gm) w t->OS v->Gives prog k (.string s::v::cap).toArray t λu a7=>ZT t a7/\u= .bool (dec (D s))) :
  Gives prog 118 #[.map (some gm),.func (.func k) #[] cap.toArray] w λ_ t=>Chg (λk=>k=gm) w t/\ ∃m',MapL sK t gm m'/\ ∀p,p∈m'↔p∈m/\ ¬D p.1:=by
 have G:=underlying89;refine gw func118 ntmps118 ?_;refine mY sK rfl rfl G rfl hm ?_;intro C w1 e1 s1 b1 a0;refine rn ?_;have a8:=hm.lt;refine dA [0,1,7] (λ_:List ByteArray=> []) (λd W=>Chg (λk=>k=gm) w W/\w1.heap.size<=W.heap.size/\(∃E n,WalkM sK W C gm E d n/\ ∀p,p∈E↔p∈m/\(p.1∈d-> ¬D p.1))/\d.Nodup/\ ∀k∈d,∃v,(k,v)∈m) (λd=>m.length-d.length) [] ⟨.of_below b1,ZC,⟨m,_,a0,ZM⟩,List.nodup_nil,ZM⟩ ?_;rintro d W ⟨hC,hz,⟨E,n,H,i⟩,a1,I⟩;refine rn ?_;refine pE sK rfl rfl rfl H (λJ=> ?_) λs v w2 z a2 a9 A a3 j=> ?_
 .refine rn ?_;refine cF rfl ?_;exact oU rfl ⟨hC,E,H.mapl,λp=>(i p).trans ⟨λh=>⟨h.1,h.2 (J p ((i p).2 h))⟩,λh=>⟨h.1,λ_=>h.2⟩⟩⟩
 obtain ⟨a,b,c,e,K⟩:=hv _ ((i _).1 z).1;dsimp only at e;subst e;refine rn ?_;refine cT rfl ?_;refine mZ sK rfl rfl rfl j ?_;refine rn ?_;refine na qw λg5 w5 F=> ?_;refine sb rfl F.blk (λw6 aa B ab=> ?_) (h1:=K);have L:C<w2.heap.size:=by obtain ⟨o,ho,_⟩:=j.iter; exact (Array.getElem?_eq_some_iff.1 ho).1
 have M:gm<w2.heap.size:=by have:=hC.size; omega
 have q5:=F.at_;have N:=hC.grow A (.inr ZJ);have O:Chg (λk=>k=gm) w w6:=(N.step F.below).grow B (.inr (by have:=N.size; omega));have z5:=F.size;refine Ue he rfl (hd w6 s _ O ⟨a,b,c,rfl,K⟩) λw7 b7=> ?_;have z7:=b7.size;have q:=j.kept ((b7.block C ZJ).trans ((B.block C ZJ (λe=>by cases e; omega)).trans (F.below.block C L))) ((b7.block gm ZJ).trans ((B.block gm ZJ (λe=>by cases e; omega)).trans (F.below.block gm M)));have R:=O.step b7;have l:(d++ [s]).Nodup:=List.nodup_append.2 ⟨a1,ZM,λx S y hy e=>by simp at hy; subst hy e; exact a2 S⟩;have g: ∀x∈d++ [s],∃v,(x,v)∈m:=λx S=>by
  rcases ZH S with h|h
  .exact I x h
  .simp at h; subst h; exact ⟨_,((i _).1 z).1⟩
 have r:m.length-(d++ [s]).length<m.length-d.length:=by
  have a4:=dY (k:=m.map (·.1)) l λx S=>by
   obtain ⟨v,hv⟩:=g x S;exact List.mem_map.2 ⟨_,hv,rfl⟩
  simp at a4 ⊢;omega
 refine iG rfl (λU=> ?_) λY=> ?_
 .have hD:D s:=dec_iff.1 U;refine GN sK s rfl G rfl rfl q ⟨_,z⟩ ?_;intro w8 m8 ac a5 Z a6;refine rn ?_;refine cK (d++ [s]) ⟨R.grow a5 (.inl rfl),ZJ,⟨m8,_,Z,λp=> ?_⟩,l,g⟩ r;rw [a6,i];constructor
  .rintro ⟨⟨h1,h2⟩,h3⟩;refine ⟨h1,λhp=> ?_⟩;rcases ZH hp with h|h
   .exact h2 h
   .simp at h; exact absurd h h3
  .rintro ⟨h1,h2⟩;refine ⟨⟨h1,λh=>h2 (by simp [h])⟩,λe=>h2 (by simp [e]) (e ▸ hD)⟩
 .have hD: ¬D s:=λh=>by rw [aD h] at Y; cases Y
  refine cK (d++ [s]) ⟨R,ZJ,⟨E,_,q,λp=> ?_⟩,l,g⟩ r;rw [i];refine and_congr_right λh1=>⟨λh hp=> ?_,λh hp=>h (by simp [hp])⟩;rcases ZH hp with h'|h'
  .exact h h'
  .simp at h'; rw [h']; exact hD
structure MapAt (w:World) (p gm:Nat) (m:List (ByteArray×Value)):Prop where
 cell:w.cell? (Addr.add ⟨p,0,none⟩ 11)=some (.map (some gm))
 map:MapL sK w gm m
 ans: ∀q∈m,OS q.2
theorem MapAt.below {w w':World} {p gm:Nat} {m:List (ByteArray×Value)} (h:MapAt w p gm m) (hb:ZT w w'):MapAt w' p gm m:=⟨Rb h.cell hb,h.map.below hb,h.ans⟩
theorem TF {S:ByteArray->Prop} (i:OS v) (o:Blk w g 38 [.func (.func 117) #[.map (some b)] #[]]) (j:LabIs w b S) :
  Gives prog 119 #[.string s,v,.pointer (some ⟨g,0,none⟩)] w λu d=>ZT w d/\u= .bool (dec (S s)):=by
 obtain ⟨a,e,c,rfl,k⟩:=i;refine gw func119 ntmps119 ?_;refine nw rfl λl m h=> ?_;refine Oy rfl rfl ZK rfl (fJ rfl) (MI (j.below h.below)) ?_;rintro u n ⟨rfl,rfl⟩;refine rn ?_;exact aO rfl ⟨bK,rfl⟩
theorem M9 {p:Nat} {recs:List Rc} {x:Rc} {xv:Value} (Y:LstAt F w p recs) (l:MapAt w p gm m) (J:RcOK G w xv x) (hn:recs.length<=1000000) (hs:x.cont.length<=1000000) (A: ∀r∈recs,r.cont.length<=1000000) :
  Gives prog 63 #[.pointer (some ⟨p,0,none⟩),.agg (iq x xv).toArray] w λ_ g=>Chg (λk=>k=gm) w g/\ ∃i,MapL sK g gm i/\ ∀q,q∈i↔q∈m/\ ¬Tch recs x 3 q.1:=by
 have n:=underlying89;have K:=l.cell;have L:=l.map.lt;refine gw func63 ntmps63 ?_;refine nw rfl λZ w3 c=> ?_;have q3:=c.at_;have z3:=c.size;have a:=l.map.below c.below;refine Kw sK rfl rfl n rfl a ?_;refine rn ?_;refine cd rfl (λM=> ?_) λM=> ?_
 .have e:m= []:=List.eq_nil_of_length_eq_zero ZJ;subst e;exact Cb rfl ⟨.of_below bK,[],a,ZM⟩
 refine cr rfl (IX (Y.below c.below) (J.below c.below) hn hs A) λu w4 C e=> ?_;obtain ⟨b,rfl,N,E⟩:=e;have O:=E.lt;refine Bp rfl rfl (fJ rfl) (fJ rfl) ?_;refine WO Wt rfl λH j d=> ?_;have o:=(a.below C).below d.below;have q6:=d.at_;have z6:=d.size;refine aN rfl (NF (D:=Tch recs x 3) o l.ans ZK λg s v R S=> ?_) ?_
 .have I:=λk U W=>R.block k U W;exact TF S ((I H ZJ ZJ).trans d.blk) ((E.below d.below).kept (I b ZJ ZJ))
 rintro u w7 ⟨t,i,y,z⟩;refine rn ?_;exact oU rfl ⟨(Chg.of_below (bK:ZT w j)).trans t λk h=> .inl h,i,y,z⟩
theorem RepA.ansV {a:Ans} (h:RepA F w cs a):OS (.agg cs.toArray):=by
 obtain ⟨f,g,rfl,b,e⟩:=h;obtain ⟨A,c,rfl,_⟩:=b.form;obtain ⟨B,d,rfl,_⟩:=e.form;exact ⟨_,_,_,rfl,rfl⟩
theorem MapAt.ne {p:Nat} (h:MapAt w p gm m):p≠gm:=λe=>by
 subst e;obtain ⟨b,c,a,_⟩:=h.map.is;have:=h.cell;rw [dQ] at this;simp [World.cell?,a] at this
theorem Fj {p n:Nat} {f:ByteArray->Ans} (hM:MapAt w p gm m) (hr: ∀q∈m,∃d,q.2= .agg (List.toArray d)/\RepA F w d (f q.1)) (hF: ∀k,F k->k<w.heap.size/\k≠gm) (hf: ∀q∈m,(f q.1).Fine b) (hb:b<1000000) (hn:n<=1000000) :
  Gives prog 64 #[.pointer (some ⟨p,0,none⟩),ZU (n:Int)] w λ_ D=>Chg (λk=>k=gm) w D/\ ∃m',MapL sK D gm m'/\(∀k,(∃v,(k,v)∈m')-> ∃v,(k,v)∈m)/\ ∀q∈m',∃d,q.2= .agg (List.toArray d)/\RepA (λk=>w.heap.size<=k/\k<D.heap.size) D d ((f q.1).ren (sh n)):=by
 have R:prog.underlying 89=some (.map 9 101):=underlying89;have S:=hM.cell;have aj:=hM.map.lt;refine gw func64 ntmps64 ?_;refine nw rfl λg3 w3 I=> ?_;have q3:=I.at_;have z3:=I.size;have a4:=hM.map.below I.below;refine mY sK rfl rfl R rfl a4 ?_;intro B w1 e1 s1 b1 a5;refine rn ?_;refine dA [0,3,10] (λ_:List ByteArray=> []) (λa W=>Chg (λk=>k=gm) w3 W/\w1.heap.size<=W.heap.size/\(∃O E,WalkM sK W B gm O a E/\(∀k,(∃v,(k,v)∈O)-> ∃v,(k,v)∈m)/\ ∀q∈O,(q.1 ∉ a->q∈m)/\(q.1∈a-> ∃d,q.2= .agg (List.toArray d)/\RepA (λk=>B<k/\k<W.heap.size) W d ((f q.1).ren (sh n))))/\a.Nodup/\ ∀k∈a,∃v,(k,v)∈m) (λa=>m.length-a.length) [] ⟨.of_below b1,ZC,⟨m,_,a5,λ_ h=>h,λq C=>⟨λ_=>C,λh=>by cases h⟩⟩,List.nodup_nil,ZM⟩ ?_;rintro a W ⟨hC,hz,⟨O,E,U,c,g⟩,a6,Y⟩;refine rn ?_;refine pE sK rfl rfl rfl U (λZ=> ?_) λs v w2 l J ak j a7 r=> ?_
 .refine rn ?_;refine cF rfl ?_;refine oU rfl ⟨(Chg.of_below I.below).trans hC λk h=> .inl h,O,U.mapl,c,λq C=> ?_⟩;obtain ⟨d,e,h⟩:=(g q C).2 (Z q C);exact ⟨d,e,h.wider λk c=>⟨ZJ,c.2⟩⟩
 obtain ⟨d,e,hA⟩:=hr _ ((g _ l).1 J);dsimp only at e;subst e;have a8:=hf _ ((g _ l).1 J);obtain ⟨x1,x2,x3,K,a9⟩:=hA.ansV;have K:d= [x1,x2,x3]:=by cases K; rfl
 subst K;refine rn ?_;refine cT rfl ?_;refine mZ sK rfl rfl rfl r ?_;refine rn ?_;refine na qw λg5 w5 G=> ?_;refine sb rfl G.blk (λw6 al t am=> ?_) (h1:=a9);have an:Chg (λk=>k=gm) w3 W:=hC;have a0:B<w2.heap.size:=by obtain ⟨o,ho,_⟩:=r.iter; exact (Array.getElem?_eq_some_iff.1 ho).1
 have z5:=G.size;have q5:=G.at_;have aa:gm<w2.heap.size:=ZJ;have k6: ∀k,k<w3.heap.size->k≠gm->w6.heap[k]?=w3.heap[k]?:=λk h1 h2=>(t.block k ZJ (λe=>by cases e; omega)).trans ((G.below.block k ZJ).trans ((j.block k ZJ (λe=>by cases e; omega)).trans (hC.block k h1 h2)));have ab:p<w.heap.size:=block_lt_of_cell (by have:=S; rw [dQ] at this; exact this);have ac:=hM.ne;have ao:=(World.cell?_of_block (w:=w) ((k6 _ (by rw [dQ]; show p<_; omega) (by rw [dQ]; exact ac)).trans (I.below.block _ (by rw [dQ]; exact ab)))).trans S;have B3:Blk w6 g3 _ _:=(k6 g3 ZJ ZJ).trans I.blk;have ad:RepA F w6 _ _:=hA.mono (w':=w6) (Kept.of_blocks λk c z=>(k6 k ZJ (hF k c).2).trans (I.below.block k z));refine NB 8 ?_;refine dp (cap:= []) (λu D=> ∃d,u= .agg (List.toArray d)/\RepA (λk=>B<k/\k<D.heap.size) D d ((f s).ren (sh n))) (λv w1 w2 hb ⟨d,e,h⟩=>⟨d,e,(h.mono (Kept.of_below hb)).wider λk c=>⟨c.1,Nat.lt_of_lt_of_le c.2 hb.size⟩⟩) ZK rfl (λ_ D L=> ?_) ?_
 .refine (CQ (cap:= [.pointer (some ⟨g3,0,none⟩)]) (b:=b) (φ:=sh n) (ad.mono (Kept.of_below L)) a8 ⟨ZK,λi ae a1 hi=>Pm ((B3.next L).next a1) ZJ⟩ (λi hi=>by unfold sh; split<;>omega)).mono λu ae ⟨p1,M,e,h⟩=>⟨p1,M,e,h.wider λk c=>⟨by have:=L.size; omega,c.2⟩⟩
 refine Qq 23 [0,3,10,19,20] rfl λap w8 b8 e8=> ?_;obtain ⟨af,rfl,h8⟩:=e8;have z8:=b8.size;have a2:=r.kept ((b8.block B ZJ).trans ((t.block B ZJ (λe=>by cases e; omega)).trans (G.below.block B a0))) ((b8.block gm ZJ).trans ((t.block gm ZJ (λe=>by cases e; omega)).trans (G.below.block gm aa)));refine yF sK s rfl R rfl rfl rfl a2 ⟨_,l⟩ ?_;intro w9 aq N a3;refine rn ?_;have H:(a++ [s]).Nodup:=List.nodup_append.2 ⟨a6,ZM,λx hx y hy e=>by simp at hy; subst hy e; exact J hx⟩;have A: ∀x∈a++ [s],∃v,(x,v)∈m:=λx hx=>by
  rcases ZH hx with h|h
  .exact Y x h
  .simp at h; subst h; exact c _ ⟨_,l⟩
 have k9: ∀k,B<k->k<W.heap.size->w9.heap[k]?=W.heap[k]?:=λk h1 h2=>(N.block k ZJ (λe=>by cases e; omega)).trans ((b8.block k ZJ).trans ((t.block k ZJ (λe=>by cases e; omega)).trans ((G.below.block k ZJ).trans (j.block k h2 (λe=>by cases e; omega)))));refine cK (a++ [s]) ⟨?_,ZJ,⟨_,none,a3,λk ⟨v,hv⟩=> ?_,λq C=> ?_⟩,H,A⟩ ?_
 .exact ((((hC.grow j (.inr ZJ)).step G.below).grow t (.inr ZJ)).step b8).grow N (.inl rfl)
 .rcases mem_lput.1 hv with e|⟨hv,_⟩
  .cases e; exact c _ ⟨_,l⟩
  .exact c _ ⟨_,hv⟩
 .rcases mem_lput.1 C with rfl|⟨C,ag⟩
  .refine ⟨λh=>absurd ZM h,λ_=>⟨af,rfl,(h8.mono (Kept.of_blocks λk c z=>N.block k z λe=>by cases e; omega)).wider λk c=>⟨c.1,ZJ⟩⟩⟩
  .refine ⟨λh=>(g q C).1 λh'=>h (by simp [h']),λh=> ?_⟩;have ah:q.1∈a:=by
    rcases ZH h with h|h
    .exact h
    .simp at h; exact absurd h ag
   obtain ⟨M,e,h'⟩:=(g q C).2 ah;exact ⟨M,e,(h'.mono (Kept.of_blocks λk c z=>k9 k c.1 z)).wider λk c=>⟨c.1,ZJ⟩⟩
 .have ai:=dY (k:=m.map (·.1)) H λx hx=>by
   obtain ⟨v,hv⟩:=A x hx;exact List.mem_map.2 ⟨_,hv,rfl⟩
  simp at ai ⊢;omega
structure Tabs (w:World):Prop where
 key: ∀(i:Nat) (s:ByteArray),keys11[i]?=some s->w.cell? ⟨0,i,none⟩=some (.string s)
theorem Tabs.below (h:Tabs w) (hb:ZT w w'):Tabs w':=⟨λi s a=>(hb.cell (block_lt_of_cell (h.key i s a))).trans (h.key i s a)⟩
theorem MF (a b:ByteArray):(a.toList==b.toList)=true↔a=b:=by
 rw [beq_iff_eq];constructor
 .intro h;rw [ByteArray.toList_eq,ByteArray.toList_eq] at h;exact ByteArray.ext (Array.ext' h)
 .rintro rfl; rfl
theorem Qx (a b:ByteArray):(a.toList==b.toList)=decide (a=b):=by
 rw [Bool.eq_iff_iff,MF,decide_eq_true_iff]
theorem XU {w1:World} (h: ∀i,i<s.size->w1.cell? ⟨g,i,none⟩=some (.int .u8 ((s.data.getD i 0).toNat:Int))) (hb:ZT w1 w) (a:i<s.size):w.cell? (Addr.add ⟨g,0,none⟩ ((i:Int).toNat*1))=some (.int .u8 ((gH s i:Nat):Int)):=by
 rw [show (i:Int).toNat*1=i by omega,dQ];exact Rb (h i a) hb
theorem zl:Gives prog 288 #[.int .u8 (b:Int)] w λu a=>ZT w a/\u= .bool (dec (vD b)):=by
 refine gw func288 ntmps288 ?_;exact rB rfl (by unfold vD; simp; omega)
theorem zn:Gives prog 289 #[.int .u8 (b:Int)] w λu a=>ZT w a/\u= .bool (dec (yt b)):=by
 refine gw func289 ntmps289 ?_;exact rB rfl (by unfold yt; simp; omega)
theorem mQ {v a b:Int}:Gives prog 231 #[ZU v,ZU a,ZU b] w λu c=>ZT w c/\u= .bool (decide (a<=v/\v<=b)):=by
 refine gw func231 ntmps231 ?_;exact aO rfl ⟨bK,ZM⟩
theorem qT {v:Int}:Gives prog 144 #[ZU v] w λu a=>ZT w a/\u= .bool (decide (0<=v/\v<=1439)):=by
 refine gw func144 ntmps144 ?_;refine cv rfl mQ λb c=> ?_;exact aO rfl ⟨bK,rfl⟩
def XF (f:FuncId):Prop:= ∀ {w:World} {i:Int} {u:Value} {n:Nat},nk u n->Gives prog f #[ZU i,u] w λx w'=>ZT w w'/\x= .bool (decide (0<=i/\i<(n:Int)))
theorem FQ:XF 228:=λh=>by
 refine gw func228 ntmps228 ?_;exact aO rfl ⟨bK,ZM⟩
theorem FT:XF 229:=λh=>by
 refine gw func229 ntmps229 ?_;exact aO rfl ⟨bK,ZM⟩
theorem xe:XF 235:=λh=>by
 refine gw func235 ntmps235 ?_;exact aO rfl ⟨bK,ZM⟩
theorem MS:Gives prog 230 #[.string s] w λu l=>ZT w l/\u= .bool (dec (CodeOK s)):=by
 refine gw func230 ntmps230 ?_;refine iG rfl (λb=> ?_) λd=> ?_
 .exact rF λh=>by have:=h.n1; have:=h.n2; simp at b; omega
 have a:1<=s.size/\s.size<=8:=by simp at d; omega
 refine bo rfl λg c n o m=> ?_;refine BA [14,15] 16 s.size (Seen λi=>(65<=gH s i/\gH s i<=90)\/yt (gH s i)) Seen.zero (λi W j k e=> ?_) λW k e=> ?_
 .have p:=XU m k j;refine rn ?_;refine cv rfl zn λq r=> ?_;refine iG rfl (λb=> ?_) λd=> ?_
  .exact rF λh=>by have:=h.all i j; rcases this with h|h<;>simp [h,qF] at b; omega
  .exact ou (e.go (Classical.byContradiction λh=>by simp at h; simp [aH h.2] at d; omega))
 .exact rT ⟨a.1,a.2,e⟩
theorem MR (G:Tabs w):Gives prog 219 #[.string s] w λu E=>ZT w E/\u= .bool (dec (NameOK keys11 s)):=by
 refine gw func219 ntmps219 ?_;refine cg rfl (λ_=>zl (b:=gH s 0)) λH I=> ?_;refine iG rfl (λo=> ?_) λp=> ?_
 .exact rF λh=>by have J:=h.n1; have K:=h.n2; rw [aD h.fst] at o; simp at o; omega
 have a:(1<=s.size/\s.size<=16)/\vD (gH s 0):=by
  simp only [Bool.or_eq_false_iff,decide_eq_false_iff_not,Bool.not_eq_false'] at p;exact ⟨ZJ,dec_iff.1 p.2⟩
 refine bo rfl λg c L M F=> ?_;refine BA [0,22,23] 24 s.size (Seen λi=>vD (gH s i)\/yt (gH s i)\/gH s i=95) Seen.zero (λi W d q r=> ?_) λW q r=> ?_
 .have m:=XU F q d;refine rn ?_;refine cv rfl zl λN O=> ?_;refine cg rfl (λ_=>zn) λR S=> ?_;refine iG rfl (λo=> ?_) λp=> ?_
  .exact rF λh=>by have:=h.all i d; rcases this with h|h|h<;>simp [h,qF] at o
  .exact ou (r.go (Classical.byContradiction λh=>by simp only [not_or] at h; simp [aH h.1,aH h.2.1] at p; omega))
 have n: ∀(j:Nat) (v:Value),(keys11.map Value.string)[j]?=some v->W.cell? (Addr.add ⟨0,0,none⟩ j)=some v:=λj v C=>by
  rw [List.getElem?_map] at C;obtain ⟨z,m,rfl⟩:=Option.map_eq_some_iff.1 C;rw [dQ];exact (G.below bK).key j z m
 refine la (keys11.map Value.string) rfl n ?_;refine BA [0,41] 42 17 (Seen λi=> ∀x,keys11[i]?=some x->s≠x) Seen.zero (λi W d q e=> ?_) λW q e=> ?_
 .obtain ⟨x,D,t⟩:=eP (l:=keys11) (k:=i) d;have y:(keys11.map Value.string)[(i:Int).toNat]?=some (.string x):=by rw [show (i:Int).toNat=i by omega,List.getElem?_map,D]; rfl
  refine iv y rfl ?_;rw [Qx];refine cd rfl (λA=> ?_) λB=> ?_
  .exact rF λh=>h.nokey (A ▸ t)
  .exact ou (e.go λz m=>by rw [D] at m; cases m; exact B)
 .exact rT ⟨a.1.1,a.1.2,a.2,r,λh=>by
   obtain ⟨i,d⟩:=List.mem_iff_getElem?.1 h;exact e i (ZE d).1 s d rfl⟩
def VL (c:Cal) (u v:Value):List Value:= [ZU c.zone,u,v]
structure CalIn (F:Nat->Prop) (w:World) (u v:Value) (c:Cal):Prop where
 z:fF c.zone
 wk:SL boolT F w u c.week
 hol:SL aS F w v c.hol
theorem CalIn.below {F:Nat->Prop} {w w':World} {u v:Value} {c:Cal} (h:CalIn F w u v c) (hb:ZT w w'):CalIn F w' u v c:=⟨h.z,h.wk.below hb,h.hol.below hb⟩
def T9 (f:FuncId):Prop:= ∀ {w:World} {u v:Value} {c:Cal} {F:Nat->Prop},CalIn F w u v c->Gives prog f #[.agg (VL c u v).toArray] w λx w'=>ZT w w'/\x= .bool (dec (CalOK c))
theorem NK {f:FuncId} (C:f=129\/f=314):T9 f:=λ{w u v c F} h=>by
 have D:=h.wk;have e:=h.hol;rcases C with rfl|rfl<;>first|refine gw func129 ntmps129 ?_|refine gw func314 ntmps314 ?_
 all_goals
  refine nw rfl λg j E=> ?_;refine iG rfl (λm=> ?_) λa=> ?_
  .exact rF λh=>by have:=h.z1; have:=h.z2; have:=h.wk; have:=h.few; simp at m; omega
  have a:(-720<=c.zone/\c.zone<=840)/\c.week.length=7/\c.hol.length<=40:=by simp at a; omega
  refine dA [1] (λk:Nat=> [(3,none,ZU ((k:Int)+1))])
   (λk W=>k<=c.hol.length/\ZT j W/\Seen (λi=> ∀x y:Int,c.hol[i]?=some x->c.hol[i+1]?=some y->x<y) k W) (λk=>c.hol.length-k) 0 ⟨ZB,ZA,Seen.zero⟩ ?_
  rintro k W ⟨s,G,n⟩;refine rn ?_;refine cd rfl (λt=> ?_) λz=> ?_
  .obtain ⟨x,d,_⟩:=eP (l:=c.hol) (k:=k) ZJ;obtain ⟨y,b,_⟩:=eP (l:=c.hol) (k:=k+1) ZJ;have B:W.cell? ((vP v).add (((k:Int)+1-1).toNat*1))=some (ZU x):=by
    rw [show (k:Int)+1-1=k by omega];exact US (f:=λx=> [ZU x]) e bK d inferInstance rfl rfl
   refine dr λH I=> ?_;refine cd rfl (λm=> ?_) λa=> ?_
   .exact rF λh=>by have:=h.inc k x y d b; omega
   .exact cK (k+1) ⟨ZJ,bK,n.go λp q o r=>by rw [d] at o; rw [b] at r; cases o; cases r; omega⟩
  .exact rT ⟨a.1.1,a.1.2,a.2.1,a.2.2,λi x y d b=>n i (by have:=(ZE b).1; omega) x y d b⟩
theorem GC:T9 129:=NK (.inl rfl)
def Sv (o:Of) (v:Value):List Value:= [.string o.name,ZU o.op,ZU o.cal,ZU o.pock,ZU o.pass,ZU o.mins,v]
structure OfIn (F:Nat->Prop) (w:World) (v:Value) (o:Of):Prop where
 nm:o.name.size<=9223372036854775807
 i1:fF o.op
 i2:fF o.cal
 i3:fF o.pock
 i4:fF o.pass
 i5:fF o.mins
 cd:SL eT F w v o.codes
theorem OfIn.below {F:Nat->Prop} {w w':World} {v:Value} {o:Of} (h:OfIn F w v o) (hb:ZT w w'):OfIn F w' v o:=⟨h.nm,h.i1,h.i2,h.i3,h.i4,h.i5,h.cd.below hb⟩
structure NVform (v:NV) (N:Net):Prop where
 c:nk v.c N.cals.length
 n:nk v.n N.names.length
 o:nk v.o N.ops.length
 f:nk v.f N.offs.length
 l:nk v.l N.lines.length
 k:nk v.k N.classes.length
theorem NetIn.form {v:NV} (h:NetIn F w v N):NVform v N:=⟨h.c.isl,h.n.isl,h.o.isl,h.f.isl,h.l.isl,h.k.isl⟩
theorem AF {v:NV} {ov:Value} {o:Of} (j:NVform v N) (h:OfIn F w ov o):Gives prog 136 #[.agg v.cells.toArray,.agg (Sv o ov).toArray] w λx k=>ZT w k/\x= .bool (dec (OfOK N o)):=by
 have l:=h.cd;refine gw func136 ntmps136 ?_;refine nw rfl λq r s=> ?_;refine nw rfl λt u y=> ?_;refine cv rfl (FQ j.o) λz A=> ?_;refine cg rfl (λ_=>FT j.c) λB C=> ?_;refine iG rfl (λb=> ?_) λa=> ?_
 .exact rF λh=>by have:=h.o1; have:=h.o2; have:=h.c1; have:=h.c2; have:=h.few; simp at b; omega
 have a:(0<=o.op/\o.op<N.ops.length)/\(0<=o.cal/\o.cal<N.cals.length)/\o.codes.length<=20:=by simp at a; omega
 refine BA [3,28,29] 30 o.codes.length (Seen λi=> ∀c,o.codes[i]?=some c->CodeOK c) Seen.zero (λi W e m d=> ?_) λW m d=> ?_
 .refine cv rfl MS λn p=> ?_;refine iG rfl (λb=> ?_) λa=> ?_
  .exact rF λh=>by simp [aD (h.codes _ (List.getElem_mem e))] at b
  .exact ou (d.go λc g=>by rw [ZD e] at g; cases g; exact dec_iff.1 (by simpa using a))
 .refine cv rfl mQ λn p=> ?_;refine cg rfl (λ_=>mQ) λD E=> ?_;refine cg rfl (λ_=>mQ) λG H=> ?_;refine rB rfl ?_;simp only [Bool.and_eq_true,decide_eq_true_eq];exact ⟨λh=>⟨a.1.1,a.1.2,a.2.1.1,a.2.1.2,a.2.2,d.all,h.1.1.1,h.1.1.2,h.1.2.1,h.1.2.2,h.2.1,h.2.2⟩,λh=>⟨⟨⟨h.p1,h.p2⟩,h.q1,h.q2⟩,h.m1,h.m2⟩⟩
theorem FZ {v:NV} {l:Li} (b:NVform v N):Gives prog 140 #[.agg v.cells.toArray,.agg (JK l).toArray] w λx c=>ZT w c/\x= .bool (dec (LiOK N l)):=by
 refine gw func140 ntmps140 ?_;refine nw rfl λe g i=> ?_;refine nw rfl λj k m=> ?_;refine cv rfl (xe b.f) λn o=> ?_;refine cg rfl (λ_=>xe b.f) λp q=> ?_;refine iG rfl (λd=> ?_) λa=> ?_
 .exact rF λh=>by have:=h.f1; have:=h.f2; have:=h.t1; have:=h.t2; have:=h.ne; simp at d; omega
 have a:(0<=l.frm/\l.frm<N.offs.length)/\(0<=l.to/\l.to<N.offs.length)/\l.frm≠l.to:=by simp at a; omega
 refine cv rfl qT λr s=> ?_;refine cg rfl (λ_=>mQ) λt u=> ?_;refine cg rfl (λ_=>mQ) λy z=> ?_;refine rB rfl ?_;simp only [Bool.and_eq_true,decide_eq_true_eq];exact ⟨λh=>⟨a.1.1,a.1.2,a.2.1.1,a.2.1.2,a.2.2,h.1.1.1,h.1.1.2,h.1.2.1,h.1.2.2,h.2.1,h.2.2⟩,λh=>⟨⟨⟨h.a1,h.a2⟩,h.r1,h.r2⟩,h.d1,h.d2⟩⟩
def RowC {α:Type} (T:Ty α) (G:Nat->Prop) (W:World) (e:TypeId) (v:Value) (ps:List (List Value×α)):Prop:=OwnS W e T.n v ps.length (ps.flatMap (·.1))/\ ∀p∈ps,T.rep G W p.1 p.2
theorem RowC.kept {α:Type} {T:Ty α} {G:Nat->Prop} {W W':World} {e:TypeId} {v:Value} {ps:List (List Value×α)} (h:RowC T G W e v ps) (hb: ∀k,G k\/v.ownBlock=some k->k<W.heap.size->W'.heap[k]?=W.heap[k]?):RowC T G W' e v ps :=
 ⟨h.1.kept λg c=>hb g (.inr c) (h.1.lt c),λp d=>T.mono _ _ _ _ _ (.of_blocks λb f a=>hb b (.inl f) a) (h.2 p d)⟩
theorem RowC.wid {H:Nat->Prop} (h:RowC T G W e v ps) (b: ∀k,G k->H k):RowC T H W e v ps:=⟨h.1,λp a=>T.wider _ _ _ _ _ b (h.2 p a)⟩
theorem RowC.step (h:RowC T G W e v ps) (hb:ZT W W'):RowC T G W' e v ps:=h.kept λk _ a=>hb.block k a
theorem H7 {x y:List Value×α} (b:ps[i]?=some x) (h:y.2=x.2):(ps.set i y).map (·.2)=ps.map (·.2):=by
 apply List.ext_getElem?;intro j;rw [List.getElem?_map,List.getElem?_map,List.getElem?_set];by_cases a:i=j
 .subst a;rw [if_pos rfl,if_pos (ZE b).1,b];simp [h]
 .rw [if_neg a]
theorem RowC.put {u:Value} {j:Nat} {x y:List Value×α} (h:RowC T G W e v ps) (b:ps[i]?=some x) (hj:j<T.n) (c:y.1=x.1.set j u)
  (d:OwnS W' e T.n v ps.length ((ps.flatMap (·.1)).set (i*T.n+j) u)) (f:Kept G W W') (g:T.rep G W' y.1 y.2):RowC T G W' e v (ps.set i y):=by
 refine ⟨?_,λp a=> ?_⟩
 .rw [List.length_set,<-mO (λp:List Value×α=>p.1) T.n ps (λp a=>T.len _ _ _ _ (h.2 p a)) i j x y u b hj c];exact d
 .rcases List.mem_or_eq_of_mem_set a with a|rfl
  .exact T.mono _ _ _ _ _ f (h.2 p a)
  .exact g
theorem RowC.sl {H:Nat->Prop} (b:0<T.n) (h:RowC T G W e v ps) (c: ∀k,G k->H k) (d: ∀g,v.ownBlock=some g->H g) (hl:ps.length<=1000000):SL T H W v (ps.map (·.2)) :=
 eB ps (λp a=>T.wider _ _ _ _ _ c (h.2 p a)) b h.1 rfl d ZJ
theorem Cop.row {x:Value} (h:Cop T F w w' e x l) (g: ∀k,F k->G k): ∃a:List (List Value×α),a.map (·.2)=l/\RowC T G w' e x a:=by
 obtain ⟨c,a,rfl,d,b,i⟩:=h;refine ⟨a,rfl,by rw [List.length_map] at b; exact b,λp f=> ?_⟩;exact T.wider _ _ _ _ _ g (T.mono _ _ _ _ _ (.of_below c) (d p f))
structure SmallN (N:Net):Prop where
 c:N.cals.length<=1000000
 n:N.names.length<=1000000
 o:N.ops.length<=1000000
 f:N.offs.length<=1000000
 l:N.lines.length<=1000000
 k:N.classes.length<=1000000
 cal: ∀x∈N.cals,x.week.length<=1000000/\x.hol.length<=1000000
 cod: ∀x∈N.offs,x.codes.length<=1000000
theorem Ip:Ty.Nb calT:=⟨ZL,λF w d e ⟨u,v,h,a,b,c⟩=>⟨u,v,h,a,b.nb ⟨ZL,λ_ _ _ _ h=>h⟩,c.nb AA⟩⟩
theorem Sw:Ty.Nb ofT:=⟨ZL,λF w j e ⟨v,h,a,b,c,d,f,g,i⟩=>⟨v,h,a,b,c,d,f,g,i.nb ⟨ZL,λ_ _ _ _ h=>h⟩⟩⟩
theorem NetIn.nb' {v:NV} (h:NetIn F w v N) (d: ∀k,F k->G k):NetIn (λk=>G k/\k<w.heap.size) w v N :=
 have a:=⟨ZL,λ_ _ _ _ h=>h⟩
 NetIn.wider ⟨h.c.nb Ip,h.n.nb a,h.o.nb a,h.f.nb Sw,h.l.nb ⟨ZL,λ_ _ _ _ h=>h⟩,h.k.nb ⟨ZL,λ_ _ _ _ h=>h⟩⟩ λk b=>⟨d k b.1,b.2⟩
theorem Kb {v:NV} (h:NetIn F w v N) (hF: ∀k,F k->k<w.heap.size) (hs:SmallN N) :
  Gives prog 43 #[.agg v.cells.toArray] w λx w'=>ZT w w'/\ ∃v',x= .agg v'.cells.toArray/\NetIn (λk=>(F k\/w.heap.size<=k)/\k<w'.heap.size) w' v' N:=by
 obtain ⟨h1,h2,h3,h4,h5,h6⟩:=h;obtain ⟨vc,vn,vo,vf,vl,vk⟩:=v;obtain ⟨A1,c1,rfl,_⟩:=h1.form;obtain ⟨A2,c2,rfl,_⟩:=h2.form;obtain ⟨A3,c3,rfl,_⟩:=h3.form;obtain ⟨A4,c4,rfl,_⟩:=h4.form;obtain ⟨A5,c5,rfl,_⟩:=h5.form;obtain ⟨A6,c6,rfl,_⟩:=h6.form;have sc:=hs.c;have dw:=hs.f;refine gw func43 ntmps43 ?_;refine nw (cs:= [.slice A1 N.cals.length c1,.slice A2 N.names.length c2,.slice A3 N.ops.length c3,.slice A4 N.offs.length c4,.slice A5 N.lines.length c5,.slice A6 N.classes.length c6]) rfl λY w1 f1=> ?_;refine na OX λK w2 f2=> ?_;have q1:=f1.at_;have q2:=f2.at_;have z1:=f1.size;have z2:=f2.size;refine aN rfl (Gz (h1.below (bK:ZT w w2)) hs.c) ?_;intro xc w3 hc;have d3:=hc.1;have z3:=d3.size;have a4:=hc.2.choose_spec.2.2.2;obtain ⟨az,p0,b0⟩:=hc.row (G:=λk=>k≠Y/\k≠K/\xc.ownBlock≠some k/\F k) (λk a=>⟨by have:=hF k a; omega,by have:=hF k a; omega,λe=>by have:=a4 k e; have:=hF k a; omega,a⟩);have cz:az.length=N.cals.length:=by rw [<-p0,List.length_map]
 obtain ⟨A7,c7,rfl,_⟩:=b0.1.form;rw [cz] at b0 a4 ⊢;refine rn ?_;refine sf rfl (tr:Blk w3 Y _ [.slice A1 N.cals.length c1,.slice A2 N.names.length c2,.slice A3 N.ops.length c3,.slice A4 N.offs.length c4,.slice A5 N.lines.length c5,.slice A6 N.classes.length c6]) λw4 d0 b1 dx=> ?_
 let G1:Nat->Prop:=λk=>k≠Y/\k≠K/\(Value.slice A7 N.cals.length c7).ownBlock≠some k/\(F k\/w.heap.size<=k)
 have d1:RowC calT G1 w4 151 (.slice A7 N.cals.length c7) az:=(RowC.kept b0 λk a b=>b1.block k b λe=>by
  have e':k=Y:=by cases e; rfl
  rcases a with a|a
  .exact a.1 e'
  .have:=a4 _ a; omega).wid λk a=>⟨a.1,a.2.1,a.2.2.1,.inl a.2.2.2⟩
 have d2:Blk w4 K _ _:=b1.blk (f2.blk.next d3) ZJ;refine dA [1,2,10,11] (λx:Nat×List (List Value×Cal)=> [(12,none,ZU (x.1:Int))])
  (λx W=>x.1<=N.cals.length/\ZT w W/\w4.heap.size<=W.heap.size/\(Blk W Y 29 (.slice A7 N.cals.length c7:: [.slice A2 N.names.length c2,.slice A3 N.ops.length c3,.slice A4 N.offs.length c4,.slice A5 N.lines.length c5,.slice A6 N.classes.length c6])/\Blk W K 29 [.slice none 0 0,.slice none 0 0,.slice none 0 0,.slice none 0 0,.slice none 0 0,.slice none 0 0])/\x.2.map (·.2)=N.cals/\RowC calT G1 W 151 (.slice A7 N.cals.length c7) x.2) (λx=>N.cals.length-x.1) (0,az) ⟨ZB,But.below (bK:ZT w w3) b1 ZJ,ZC,⟨d0,d2⟩,p0,d1⟩ ?_
 rintro ⟨i,d⟩ W ⟨hi,hW,hz,⟨hB,hA⟩,a5,hR⟩;dsimp only at hi a5 hR;have bh:d.length=N.cals.length:=by rw [<-a5,List.length_map]
 refine rn ?_;refine cd rfl (λb=> ?_) λb2=> ?_
 .have a6:i<d.length:=by dsimp only at b; omega
  have d4:d[i].2∈N.cals:=by rw [<-a5]; exact List.mem_map_of_mem (List.getElem_mem a6)
  have r:=hs.cal _ d4;have b3:d[i]?=some d[i]:=ZD a6;obtain ⟨u0,u1,Z,iz,bi,am⟩:=hR.2 d[i] (List.getElem_mem a6);obtain ⟨X0,e0,rfl,_⟩:=bi.form;obtain ⟨X1,e1,rfl,_⟩:=am.form;have a7: ∀j,j<3->(d.flatMap (·.1))[i*3+j]?=d[i].1[j]?:=λj hj=>oQ 3 d (λq hq=>calT.len _ _ _ _ (hR.2 q hq)) i j d[i] b3 hj;have hO:=hR.1;rw [bh] at hO;obtain ⟨gc,b4,a8⟩:=hO.cellS (j:=i*3+1) (u:= .slice X0 d[i].2.week.length e0) (by rw [a7 1 ZL,Z]; rfl);subst b4;rw [<-Addr.add_add] at a8;have bj:W.cell? ((Addr.add ⟨gc,0,none⟩ (((i:Nat):Int).toNat*3)).add 1)=_:=a8;refine rn ?_;refine NB 12 ?_;refine dp (cap:= []) (λx W2=>SL boolT (λk=>W.heap.size<=k/\k<W2.heap.size) W2 x d[i].2.week) (λv w1 w2 hb h=>(h.below hb).wider λk a=>⟨a.1,Nat.lt_of_lt_of_le a.2 hb.size⟩) ZK rfl (λ_ w' B=>(GA (bi.below B) r.1).mono λx bk hx=>⟨hx.1,((hx.sl ZL (λ_ _ _ _ _ _ h=>h) r.1).2).wider λk a=>⟨by have:=B.size; omega,a.2⟩⟩) ?_;refine Qq 24 [1,2,3,10,11,12,26] rfl λdy w6 R bl=> ?_;obtain ⟨Y0,y0,rfl,_⟩:=SL.form bl;have z6:=R.size;have b5:OwnS w6 151 3 (.slice (some ⟨gc,0,none⟩) N.cals.length c7) N.cals.length (d.flatMap (·.1)):=hO.below R;have d5:gc<W.heap.size:=hO.lt rfl;rw [Addr.add_add]
  refine nU rfl is149.q rfl rfl b5 (by rw [b5.1]; show i*3+1<_; omega) rfl ?_;intro L ai m d6;refine rn ?_;have bm:w2.heap.size<=gc:=a4 gc rfl;have d7:Blk L Y _ _:=m.blk (hB.next R) ZJ;have d8:Blk L K _ _:=m.blk (hA.next R) ZJ;have bn:ZT w L:=But.below (hW.step R) m ZJ;have hG: ∀k,G1 k->k≠gc:=λk a e=>a.2.2.1 (by rw [e]; rfl);have k7:Kept G1 W L:=Kept.of_blocks λk a b=>(m.block k ZJ (λe=>by cases e; exact hG _ a rfl)).trans (R.block k b);have b7:SL boolT G1 L (.slice Y0 d[i].2.week.length y0) d[i].2.week:=(SL.mono bl (w':=L) (Kept.of_blocks λk a b=>m.block k b λe=>by cases e; omega)).wider λk a=>⟨ZJ,ZJ,λe=>by simp [Value.ownBlock] at e; omega,.inr ZJ⟩;have d9:SL aS G1 L _ d[i].2.hol:=SL.mono am k7;have aj:(d.flatMap (·.1))[i*3+2]?=some (.slice X1 d[i].2.hol.length e1):=by rw [a7 2 ZL,Z]; rfl
  have dz:L.cell? ((Addr.add ⟨gc,0,none⟩ (((i:Nat):Int).toNat*3)).add 2)=some (.slice X1 d[i].2.hol.length e1):=by
   rw [Addr.add_add];obtain ⟨g',e',h⟩:=ai.cellS (j:=i*3+2) (u:= .slice X1 d[i].2.hol.length e1) (by rw [List.getElem?_set]; rw [if_neg (by show¬i*3+1=i*3+2; omega)]; exact aj);cases e';exact h
  refine NB 12 ?_;refine dp (cap:= []) (λx W2=>SL aS (λk=>L.heap.size<=k/\k<W2.heap.size) W2 x d[i].2.hol) (λv w1 w2 hb h=>(h.below hb).wider λk a=>⟨a.1,Nat.lt_of_lt_of_le a.2 hb.size⟩) ZK rfl (λ_ w' B=>(Gx (d9.below B) r.2).mono λx bk hx=>⟨hx.1,((hx.sl ZL (λ_ _ _ _ _ _ h=>h) r.2).2).wider λk a=>⟨by have:=B.size; omega,a.2⟩⟩) ?_;refine Qq 36 [1,2,10,11,12,38] rfl λe2 w8 b8 bo=> ?_;obtain ⟨Y1,y1,rfl,_⟩:=SL.form bo;have z8:=b8.size;rw [Addr.add_add];refine nU rfl is66.q rfl rfl (ai.below b8) (by rw [List.length_set,b5.1]; show i*3+2<_; omega) rfl ?_;intro w9 da a9 e3;refine rn ?_;have k9:Kept G1 L w9:=Kept.of_blocks λk a b=>(a9.block k ZJ (λe=>by cases e; exact hG _ a rfl)).trans (b8.block k b);have db:SL aS G1 w9 (.slice Y1 d[i].2.hol.length y1) d[i].2.hol:=(SL.mono bo (w':=w9) (Kept.of_blocks λk a b=>a9.block k b λe=>by cases e; omega)).wider λk a=>⟨ZJ,ZJ,λe=>by simp [Value.ownBlock] at e; omega,.inr ZJ⟩;obtain ⟨C,M⟩: ∃y:List Value×Cal,y=(d[i].1.set 1 (.slice Y0 d[i].2.week.length y0),d[i].2):=⟨_,rfl⟩;obtain ⟨b9,ba⟩: ∃y:List Value×Cal,y=(C.1.set 2 (.slice Y1 d[i].2.hol.length y1),d[i].2):=⟨_,rfl⟩;have bb: ∀q∈d,q.1.length=3:=λq hq=>calT.len _ _ _ _ (hR.2 q hq)
  have F1:=mO (λp:List Value×Cal=>p.1) 3 d bb i 1 d[i] C (.slice Y0 d[i].2.week.length y0) b3 ZL (by rw [M]);have F2:=mO (λp:List Value×Cal=>p.1) 3 (d.set i C) (λq hq=>by
   rcases List.mem_or_eq_of_mem_set hq with h|rfl
   .exact bb q h
   .rw [M]; show (List.set _ _ _).length=3; rw [List.length_set]; exact bb _ (List.getElem_mem a6)) i 2 C b9 (.slice Y1 d[i].2.hol.length y1) (by rw [List.getElem?_set]; simp [a6]) ZL (by rw [ba])
  rw [List.set_set] at F2;refine cK (i+1,d.set i b9) ⟨?_,But.below (bn.step b8) a9 ZJ,ZJ,⟨a9.blk (d7.next b8) ZJ,a9.blk (d8.next b8) ZJ⟩,?_,?_,λp hp=> ?_⟩
  .show i+1<=_; omega
  .show (d.set i b9).map _=_;rw [H7 b3 (by rw [ba]),a5]
  .rw [List.length_set,bh,<-F2,<-F1];exact da
  .rcases List.mem_or_eq_of_mem_set hp with hp|rfl
   .exact calT.mono _ _ _ _ _ k9 (calT.mono _ _ _ _ _ k7 (hR.2 p hp))
   .rw [ba,M,Z];exact ⟨_,_,rfl,iz,SL.mono b7 k9,db⟩
 have dc:i=N.cals.length:=by dsimp only at b2; omega
 subst dc
 let z:Nat->Prop:=λk=>k≠Y/\k≠K/\(F k\/w.heap.size<=k)
 have kx: ∀ {u1 u2},But Y u1 u2->Kept z u1 u2:=λhb=>Kept.of_blocks λk a b=>hb.block k b λe=>by cases e; exact a.1 rfl
 have bp:SL calT z W (.slice A7 N.cals.length c7) N.cals:=by
  have:=RowC.sl (H:=z) ZL hR (λk a=>⟨a.1,a.2.1,a.2.2.2⟩) (λg hg=>by have:=a4 g hg; exact ⟨ZJ,ZJ,.inr ZJ⟩) ZJ
  rwa [a5] at this
 refine aN rfl (nQ (h2.below hW) hs.n) ?_;intro xn e4 bq;obtain ⟨aa,an⟩:=bq.sl ZL (λ_ _ _ _ _ _ h=>h) hs.n;obtain ⟨An,cn,rfl,_⟩:=an.form;have e5:=aa.size;refine rn ?_;refine sf rfl (hB.next aa) λak br S dk=> ?_;have ao:ZT w ak:=But.below (hW.step aa) S ZJ;have bs:Blk ak K _ _:=S.blk (hA.next aa) ZJ;have bt:SL eT z ak _ _:=(an.wider (F':=z) λk a=>⟨ZJ,ZJ,.inr ZJ⟩).mono (kx S);have bu:SL calT z ak _ _:=(bp.below aa).mono (kx S);refine aN rfl (Gu (h3.below ao) hs.o) ?_;intro xo e6 bv;obtain ⟨a0,ap⟩:=bv.sl ZL (λ_ _ _ _ _ _ h=>h) hs.o;obtain ⟨Ao,co,rfl,_⟩:=ap.form;have e7:=a0.size;refine rn ?_;refine sf rfl (br.next a0) λO bw D dl=> ?_;have A:ZT w O:=But.below (ao.step a0) D ZJ;have bx:Blk O K _ _:=D.blk (bs.next a0) ZJ;have aq:SL eT z O _ _:=(ap.wider (F':=z) λk a=>⟨ZJ,ZJ,.inr ZJ⟩).mono (kx D);have ar:=(bt.below a0).mono (kx D);have au:=(bu.below a0).mono (kx D);refine aN rfl (Gv (h4.below A) hs.f) ?_;intro xf e8 ab;have E:=ab.1;have e9:=E.size;have ac:=ab.2.choose_spec.2.2.2;obtain ⟨ad,bz,ae⟩:=ab.row (G:=λk=>k≠Y/\k≠K/\xf.ownBlock≠some k/\F k) (λk a=>⟨by have:=hF k a; omega,by have:=hF k a; omega,λe=>by have:=ac k e; have:=A.size; have:=hF k a; omega,a⟩)
 have c0:ad.length=N.offs.length:=by rw [<-bz,List.length_map]
 obtain ⟨A8,c8,rfl,_⟩:=ae.1.form;rw [c0] at ae ac ⊢;refine rn ?_;refine sf rfl (bw.next E) λI c9 s dm=> ?_;have ca:ZT w I:=But.below (A.step E) s ZJ;have cb:Blk I K _ _:=s.blk (bx.next E) ZJ;have dn:=(aq.below E).mono (kx s);have dq:=(ar.below E).mono (kx s);have dr:=(au.below E).mono (kx s)
 let G2:Nat->Prop:=λk=>k≠Y/\k≠K/\(Value.slice A8 N.offs.length c8).ownBlock≠some k/\(F k\/w.heap.size<=k)
 have cc:RowC ofT G2 I 155 (.slice A8 N.offs.length c8) ad:=(RowC.kept ae λk a b=>s.block k b λe=>by
  have e':k=Y:=by cases e; rfl
  rcases a with a|a
  .exact a.1 e'
  .have:=ac _ a; have:=A.size; omega).wid λk a=>⟨a.1,a.2.1,a.2.2.1,.inl a.2.2.2⟩
 let F3:Nat->Prop:=λk=>k≠Y/\k≠K/\k<O.heap.size/\(F k\/w.heap.size<=k)
 have bc: ∀k,(z k/\k<O.heap.size)->F3 k:=λk a=>⟨a.1.1,a.1.2.1,a.2,a.1.2.2⟩;have k3:Kept F3 O I:=(Kept.of_blocks λk a b=>(s.block k ZJ λe=>by cases e; exact a.1 rfl).trans (E.block k b));have dd:SL calT F3 I _ _:=((au.nb Ip).wider bc).mono k3;have de:SL eT F3 I _ _:=((ar.nb ⟨ZL,λ_ _ _ _ h=>h⟩).wider bc).mono k3;have df:SL eT F3 I _ _:=((aq.nb ⟨ZL,λ_ _ _ _ h=>h⟩).wider bc).mono k3;refine dA [1,2,53,54] (λx:Nat×List (List Value×Of)=> [(55,none,ZU (x.1:Int))])
  (λx W=>x.1<=N.offs.length/\ZT w W/\I.heap.size<=W.heap.size/\(Blk W Y 29 [.slice A7 N.cals.length c7,.slice An N.names.length cn,.slice Ao N.ops.length co,.slice A8 N.offs.length c8,.slice A5 N.lines.length c5,.slice A6 N.classes.length c6]/\Blk W K 29 [.slice none 0 0,.slice none 0 0,.slice none 0 0,.slice none 0 0,.slice none 0 0,.slice none 0 0])/\(SL calT F3 W (.slice A7 N.cals.length c7) N.cals/\SL eT F3 W (.slice An N.names.length cn) N.names/\SL eT F3 W (.slice Ao N.ops.length co) N.ops)/\x.2.map (·.2)=N.offs/\RowC ofT G2 W 155 (.slice A8 N.offs.length c8) x.2) (λx=>N.offs.length-x.1) (0,ad) ⟨ZB,ca,ZC,⟨c9,cb⟩,⟨dd,de,df⟩,bz,cc⟩ ?_
 rintro ⟨j,t⟩ X ⟨hj,hX,ea,⟨ce,cf⟩,⟨cg,ch,ci⟩,af,a1⟩;dsimp only at hj af a1;have a7:t.length=N.offs.length:=by rw [<-af,List.length_map]
 refine rn ?_;refine cd rfl (λb=> ?_) λb2=> ?_
 .have bd:j<t.length:=by dsimp only at b; omega
  have dg:t[j].2∈N.offs:=by rw [<-af]; exact List.mem_map_of_mem (List.getElem_mem bd)
  have r:=hs.cod _ dg;have be:t[j]?=some t[j]:=ZD bd;obtain ⟨u0,Z,i0,i1,i2,i3,i4,i5,cj⟩:=a1.2 t[j] (List.getElem_mem bd);obtain ⟨X0,e0,rfl,_⟩:=cj.form;have cm: ∀q∈t,q.1.length=7:=λq hq=>ofT.len _ _ _ _ (a1.2 q hq);have hO:=a1.1;rw [a7] at hO;obtain ⟨gc,b4,a8⟩:=hO.cellS (j:=j*7+6) (u:= .slice X0 t[j].2.codes.length e0) (by rw [show (t.flatMap (·.1))[j*7+6]?=t[j].1[6]? from oQ 7 t cm j 6 t[j] be ZL,Z]; rfl);subst b4;rw [<-Addr.add_add] at a8;have bj:X.cell? ((Addr.add ⟨gc,0,none⟩ (((j:Nat):Int).toNat*7)).add 6)=_:=a8;refine rn ?_;refine NB 12 ?_;refine dp (cap:= []) (λx W2=>SL eT (λk=>X.heap.size<=k/\k<W2.heap.size) W2 x t[j].2.codes) (λv w1 w2 hb h=>(h.below hb).wider λk a=>⟨a.1,Nat.lt_of_lt_of_le a.2 hb.size⟩) ZK rfl (λ_ w' B=>(nQ (cj.below B) r).mono λx bk hx=>⟨hx.1,((hx.sl ZL (λ_ _ _ _ _ _ h=>h) r).2).wider λk a=>⟨by have:=B.size; omega,a.2⟩⟩) ?_;refine Qq 67 [1,2,53,54,55,69] rfl λeb w6 R cp=> ?_;obtain ⟨Y0,y0,rfl,_⟩:=SL.form cp;have z6:=R.size;have d5:gc<X.heap.size:=hO.lt rfl;have bm:O.heap.size<=gc:=ac gc rfl;have ec:=A.size;rw [Addr.add_add];refine nU rfl is23.q rfl rfl (hO.below R) (by rw [hO.1]; show j*7+6<N.offs.length*7; omega) rfl ?_;intro L ai m d6;refine rn ?_
  have hG: ∀k,G2 k->k≠gc:=λk a e=>a.2.2.1 (by rw [e]; rfl);have k7:Kept G2 X L:=Kept.of_blocks λk a b=>(m.block k ZJ (λe=>by cases e; exact hG _ a rfl)).trans (R.block k b);have bf:Kept F3 X L:=Kept.of_blocks λk a b=>(m.block k ZJ (λe=>by cases e; have:=a.2.2.1; omega)).trans (R.block k b);have b7:SL eT G2 L (.slice Y0 t[j].2.codes.length y0) t[j].2.codes:=(SL.mono cp (w':=L) (Kept.of_blocks λk a b=>m.block k b λe=>by cases e; omega)).wider λk a=>⟨ZJ,ZJ,λe=>by simp [Value.ownBlock] at e; omega,.inr ZJ⟩;obtain ⟨C,M⟩: ∃y:List Value×Of,y=(t[j].1.set 6 (.slice Y0 t[j].2.codes.length y0),t[j].2):=⟨_,rfl⟩;have F1:=mO (λp:List Value×Of=>p.1) 7 t cm j 6 t[j] C (.slice Y0 t[j].2.codes.length y0) be ZL (by rw [M]);refine cK (j+1,t.set j C) ⟨?_,But.below (hX.step R) m ZJ,ZJ,⟨m.blk (ce.next R) ZJ,m.blk (cf.next R) ZJ⟩,⟨cg.mono bf,ch.mono bf,ci.mono bf⟩,?_,?_,λp hp=> ?_⟩
  .show j+1<=_; omega
  .show (t.set j C).map _=_;rw [H7 be (by rw [M]),af]
  .rw [List.length_set,a7,<-F1];exact ai
  .rcases List.mem_or_eq_of_mem_set hp with hp|rfl
   .exact ofT.mono _ _ _ _ _ k7 (a1.2 p hp)
   .rw [M,Z];exact ⟨_,rfl,i0,i1,i2,i3,i4,i5,b7⟩
 have dh:j=N.offs.length:=by dsimp only at b2; omega
 subst dh;have di:SL ofT z X (.slice A8 N.offs.length c8) N.offs:=by
  have:=RowC.sl (H:=z) ZL a1 (λk a=>⟨a.1,a.2.1,a.2.2.2⟩) (λg hg=>by have:=ac g hg; have:=A.size; exact ⟨ZJ,ZJ,.inr ZJ⟩) ZJ
  rwa [af] at this
 have bg: ∀k,F3 k->z k:=λk a=>⟨a.1,a.2.1,a.2.2.2⟩;refine aN rfl (Gw (h5.below hX) hs.l) ?_;intro xl ed cq;obtain ⟨ag,av⟩:=cq.sl ZL (λ_ _ _ _ _ _ h=>h) hs.l;obtain ⟨Al,cl,rfl,_⟩:=av.form;have ee:=ag.size;refine rn ?_;refine sf rfl (ce.next ag) λal cr U ds=> ?_;have aw:ZT w al:=But.below (hX.step ag) U ZJ;have ct:Blk al K _ _:=U.blk (cf.next ag) ZJ;have cu:SL KO z al _ _:=(av.wider (F':=z) λk a=>⟨ZJ,ZJ,.inr ZJ⟩).mono (kx U);refine aN rfl (Gy (h6.below aw) hs.k) ?_;intro xk ef cv;obtain ⟨a2,ax⟩:=cv.sl ZL (λ_ _ _ _ _ _ h=>h) hs.k;obtain ⟨Ak,ck,rfl,_⟩:=ax.form;have eg:=a2.size;refine rn ?_;refine sf rfl (cr.next a2) λah dt J du=> ?_;have cw:ZT w ah:=But.below (aw.step a2) J ZJ;have cx:Blk ah K _ _:=J.blk (ct.next a2) ZJ;have kk:Kept z X ah:=Kept.of_blocks λk a b=>(J.block k ZJ λe=>by cases e; exact a.1 rfl).trans ((a2.block k ZJ).trans ((U.block k ZJ λe=>by cases e; exact a.1 rfl).trans (ag.block k b)));refine sb rfl cx λdj cy ay dv=> ?_;have a3: ∀ {u1},Kept z u1 ah->Kept z u1 dj:=λh p v hp hc=>(Kept.of_blocks (F:=z) λk a b=>ay.block k b λe=>by cases e; exact a.2.1 rfl) p v hp (h p v hp hc)
 have kl:Kept z al ah:=Kept.of_blocks λk a b=>(J.block k ZJ λe=>by cases e; exact a.1 rfl).trans (a2.block k b);refine rc rfl cy ⟨But.below cw ay ZJ,⟨.slice A7 N.cals.length c7,.slice An N.names.length cn,.slice Ao N.ops.length co,.slice A8 N.offs.length c8,.slice Al N.lines.length cl,.slice Ak N.classes.length ck⟩,rfl,NetIn.nb' ⟨(cg.wider bg).mono (a3 kk),(ch.wider bg).mono (a3 kk),(ci.wider bg).mono (a3 kk),di.mono (a3 kk),cu.mono (a3 kl),((ax.wider (F':=z) λk a=>⟨ZJ,ZJ,.inr ZJ⟩).mono (kx J)).mono (a3 λp v _ hc=>hc)⟩ λk a=>a.2.2⟩
section
def NameF (w:World) (kn:Nat) (capn:List Value) (i:Nat) (s:ByteArray):Prop:= ∀W,ZT w W->Gives prog kn (ZU (i:Int)::capn).toArray W λu W'=>ZT W W'/\u= .string s
theorem NameF.below (h:NameF w kn capn i s) (hb:ZT w w'):NameF w' kn capn i s:=λW a=>h W (hb.step a)
noncomputable def yn (s:ByteArray):Int:=if dec (NameOK keys11 s) then 0 else 1
noncomputable def ym (nm:List ByteArray) (i:Nat) (s:ByteArray):Int:=if dec (s∈nm.take i) then 4 else 0
noncomputable def yj {α:Type} (G:α->Prop) (x:α):Int:=if dec (G x) then 0 else 1
theorem Fz:(∀(i:Nat) (s:ByteArray),nm[i]?=some s->s ∉ nm.take i)->nm.Nodup:=λh=>by
 rw [List.nodup_iff_pairwise_ne,List.pairwise_iff_getElem];intro i j b c a e;exact h j nm[j] (ZD c) (by rw [<-e]; exact ZF (by rw [List.getElem?_take_of_lt a]; exact ZD b))
theorem EQ (h:nm.Nodup) (hs:nm[i]?=some s):s ∉ nm.take i:=λc=>by
 obtain ⟨j,b⟩:=List.mem_iff_getElem?.1 c;have a:j<i:=by
  have:=(ZE b).1;simp at this;omega
 rw [List.getElem?_take_of_lt a] at b;obtain ⟨d,e⟩:=ZE b;obtain ⟨f,g⟩:=ZE hs;have:=List.pairwise_iff_getElem.1 (List.nodup_iff_pairwise_ne.1 h) j i d f a;exact this (by rw [e,g])
theorem Jp:yn s=0↔NameOK keys11 s:=by
 by_cases h:NameOK keys11 s<;>simp [yn,h,qF,DL]
theorem Jo:ym nm i s=0↔s ∉ nm.take i:=by
 by_cases h:s∈nm.take i<;>simp [ym,h,qF,DL]
theorem Jn {G:α->Prop} {x:α}:yj G x=0↔G x:=by
 by_cases h:G x<;>simp [yj,h,qF,DL]
def GoodAt {α:Type} (nm:List ByteArray) (l:List α) (G:α->Prop) (j:Nat):Prop:= ∀x s,l[j]?=some x->nm[j]?=some s->NameOK keys11 s/\s ∉ nm.take j/\G x
theorem F4 {G:α->Prop} {j:Nat} {x:α} (c:l[j]?=some x) (hs:nm[j]?=some s):GoodAt nm l G j↔yn s=0/\ym nm j s=0/\yj G x=0:=by
 rw [Jp,Jo,Jn];exact ⟨λh=>h x s c hs,λh y z a b=>by rw [c] at a; rw [hs] at b; cases a; cases b; exact h⟩
theorem C7 {G:α->Prop} {lim:Nat} (k:nm.length=l.length):KindOK keys11 lim nm l G↔l.length<=lim/\ ∀j,j<min l.length lim->GoodAt nm l G j:=by
 constructor
 .exact λh=>⟨h.few,λj _ x s b a=>⟨h.name s (ZF a),EQ h.nodup a,h.good x (ZF b)⟩⟩
 .rintro ⟨f,g⟩;have e:=λj x s b a=>g j (by have:=(ZE b).1; omega) x s b a;refine ⟨f,λs a=> ?_,Fz λi s a=> ?_,λx b=> ?_⟩
  .obtain ⟨j,c⟩:=List.mem_iff_getElem?.1 a;have d:=(ZE c).1;exact (e j l[j] s (ZD ZJ) c).1
  .have d:=(ZE a).1;exact (e i l[i] s (ZD ZJ) a).2.1
  .obtain ⟨j,c⟩:=List.mem_iff_getElem?.1 b;have d:=(ZE c).1;exact (e j x nm[j] c (ZD ZJ)).2.2
def KP:Ty Unit where
 n:=3
 rep:=λ_ _ cs _=>cs.length=3/\cs.all (·.oneCell')=true
 len:=λ_ _ _ _ h=>h.1
 mono:=λ_ _ _ _ _ _ h=>h
 wider:=λ_ _ _ _ _ _ h=>h
structure FR (b c:Nat) (p:Prop) (v:Value) (w:World):Prop where
 ex: ∃ps,RowB KP w 163 b v ps/\ps.length<=c/\(ps.length=0↔p)
theorem FR.nil {b c:Nat} {p:Prop} {w:World} (hp:p):FR b c p (.slice none 0 0) w:=⟨[],RowB.nil _ _ _ _,ZB,⟨λ_=>hp,λ_=>rfl⟩⟩
theorem FR.put {c:Nat} {ps:List (List Value×Unit)} (h:RowB KP w 163 b v (ps++ [(cs,())])) (a:ps.length<c) (hp: ¬p):FR b c p v w:=⟨_,h,ZO,by simp [hp]⟩
theorem FR.below {c:Nat} (h:FR b c p v w) (hb:ZT w w'):FR b c p v w':=by
 obtain ⟨a,d,e⟩:=h;exact ⟨a,d.step hb,e⟩
theorem FR.imp {c c':Nat} {p':Prop} (h:FR b c p v w) (g:c<=c') (hp:p↔p'):FR b c' p' v w:=by
 obtain ⟨a,d,e,f⟩:=h;exact ⟨a,d,Nat.le_trans e g,f.trans hp⟩
instance {b c:Nat} {p:Prop} {w:World} {v:Value}:Sta (FR b c p v w) w (FR b c p v):=⟨λh b=>h.below b⟩
theorem FR.isl {b c:Nat} {p:Prop} {w:World} {v:Value} (h:FR b c p v w): ∃n,nk v n/\n<=c/\(n=0↔p):=by
 obtain ⟨e,a,d⟩:=h;exact ⟨_,by simpa using (a.sl ZL).isl,d⟩
theorem fa {r:Option Nat} {Q:Exit->Act->World->Prop} {N:Nat} {ds:List Deferred} {ops rest:List Oper} {E:Env} {w0:World} {d:Option Tmp} {ty:TypeId} {pos:String} {af:Array Edge} {s x:Operand} {rv sv:Value} {c1 c2:Nat} {p1 p2:Prop} {q: ∀rv' w',FR w0.heap.size (c1+c2) (p1/\p2) rv' w'->ZT w0 w'->Prop}
  (h:(aC N d,ev E s,ev E x)=(true,some (none,rv),some (none,sv))) (h1:FR w0.heap.size c1 p1 rv w) (h2:FR b c2 p2 sv w) (next: ∀rv' w' a b,q rv' w' a b) (hc:c1+c2<=1000:=by decide) (hb:ZT w0 w:=by exact bK)
  (imp: ∀rv' w' a b,Wp (q rv' w' a b)->TW prog r Q N ds ops rest (ins E d none rv') w':=by exact λ_ _ _ _ h=>jB h):TW prog r Q N ds ops (⟨d,.call ⟨.builtin .append,#[s,x],#[94,94]⟩,ty,pos,af,none⟩::rest) E w:=by
 simp only [Prod.mk.injEq] at h;obtain ⟨ps,⟨o1,r1,l1⟩,n1,i1⟩:=h1;obtain ⟨qs,⟨o2,r2,l2⟩,n2,i2⟩:=h2;obtain ⟨A,c,rfl,_,hl,hcell⟩:=o2.form;refine aT (qs.flatMap (·.1)) rfl h.1 AJ h.2.1 o1 h.2.2 hl (λj u hu=> ?_) (λu hu=> ?_) ZJ ZJ λv' w' hO hg hn=> ?_
 .obtain ⟨g,hA,_,h3,_⟩:=hcell j u hu;exact ⟨_,hA,by rw [dQ]; exact h3⟩
 .obtain ⟨p,hp,hu⟩:=List.mem_flatMap.1 hu;exact List.all_eq_true.1 (r2 p hp).2 u hu
 .refine imp v' w' ⟨ps++qs,⟨by rw [List.length_append,List.flatMap_append]; exact hO,λp hp=>(ZH hp).elim (r1 p) (r2 p),λg hg'=> ?_⟩,ZO,by rw [<-i1,<-i2]; simp⟩ (hb.grown hg hb.size l1) ⟨next _ _ _ _⟩;rcases hn with e|e
  .exact l1 g (by rw [<-e]; exact hg')
  .rw [e] at hg'; cases hg'; exact hb.size
inductive Chk:(α:Type)->Ty α->FuncId->FuncId->FuncId->FuncId->Prop
 | cal:Chk Cal calT 128 218 220 221
 | opr:Chk ByteArray eT 131 222 223 224
 | off:Chk Of ofT 134 225 226 227
 | lin:Chk Li KO 138 232 233 234
 | cls:Chk Cla yB 142 236 237 238
variable {α:Type} {T:Ty α} {f0 f1 f2 f3:FuncId}
theorem UD (d:Chk α T f0 f1 f2 f3) {t:Nat} (e:Tabs w) (m:Blk w g t [.func (.func kn) #[] capn.toArray]) (a:enters prog kn=true) (hn:NameF w kn capn i s) :
  Gives prog f1 #[ZU (i:Int),.pointer (some ⟨g,0,none⟩)] w λu b=>ZT w b/\u= ZU (yn s):=by
 cases d<;>first|refine gw func218 ntmps218 ?_|refine gw func222 ntmps222 ?_|refine gw func225 ntmps225 ?_|refine gw func232 ntmps232 ?_|refine gw func236 ntmps236 ?_
 all_goals
  refine Ue a rfl (hn w ZA) λj c=> ?_;refine cv rfl (MR (e.below c)) λk l=> ?_;refine iG rfl (λh=> ?_) λh=> ?_
  .exact aO rfl ⟨bK,by by_cases h:NameOK keys11 s<;>simp_all [yn,qF]⟩
  .exact aO rfl ⟨bK,by by_cases h:NameOK keys11 s<;>simp_all [yn,qF]⟩
theorem UC (y:Chk α T f0 f1 f2 f3) {t:Nat} (C:Blk w g t [.func (.func kn) #[] capn.toArray]) (c:enters prog kn=true) (hn: ∀j x,nm[j]?=some x->NameF w kn capn j x) (hs:nm[i]?=some s) (D:i<=1000000) :
  Gives prog f2 #[ZU (i:Int),.pointer (some ⟨g,0,none⟩)] w λu a=>ZT w a/\u= ZU (ym nm i s):=by
 have r:=(ZE hs).1;cases y<;>first|refine gw func220 ntmps220 ?_|refine gw func223 ntmps223 ?_|refine gw func226 ntmps226 ?_|refine gw func233 ntmps233 ?_|refine gw func237 ntmps237 ?_
 all_goals
  refine BA [0,1,5] 6 i (Seen λj=> ∀x,nm[j]?=some x->x≠s) Seen.zero (λj W b d e=> ?_) λW d e=> ?_
  .obtain ⟨x,m,_⟩:=eP (l:=nm) (k:=j) ZJ;refine dx ?_;refine dc c rfl (λ_ a n=>hn j x m a (d.step n)) ?_;refine dc c rfl (λ_ a n=>hn i s hs a (d.step n)) ?_;rw [Qx];refine dz λA B=> ?_;refine cd rfl (λo=> ?_) λp=> ?_
   .exact aO rfl ⟨bK,by
     unfold ym;rw [aD (o ▸ ZF (i:=j) (by rw [List.getElem?_take_of_lt b]; exact m))];rfl⟩
   .exact ou (e.go λz q=>by rw [m] at q; cases q; exact p)
  .exact aO rfl ⟨bK,by
    unfold ym;rw [aH λh=> ?_]
    .rfl
    obtain ⟨j,b⟩:=List.mem_iff_getElem?.1 h;have v:=(ZE b).1;rw [List.length_take] at v;exact e j ZJ _ (by rw [List.getElem?_take_of_lt ZJ] at b; exact b) rfl⟩
theorem Uz (p:Chk α T f0 f1 f2 f3) {g9 g7 t t' kg:Nat} {capg:List Value} {l:List α} {x:α} {G:α->Prop} (q:Blk w g9 t [.func (.func kg) #[] capg.toArray]) (r:Blk w g7 t' [v]) (e:enters prog kg=true) (hl:SL T F w v l) (m:l[i]?=some x)
  (s: ∀c W,ZT w W->T.rep F W c x->Gives prog kg (.agg c.toArray::capg).toArray W λu o=>ZT W o/\u= .bool (dec (G x))) :
  Gives prog f3 #[ZU (i:Int),.pointer (some ⟨g9,0,none⟩),.pointer (some ⟨g7,0,none⟩)] w λu b=>ZT w b/\u= ZU (yj G x):=by
 have n:=(ZE m).1;obtain ⟨c,d,j⟩:=SL.el hl ZA m;have a:=T.len _ _ _ _ j;cases p<;>first|refine gw func221 ntmps221 ?_|refine gw func224 ntmps224 ?_|refine gw func227 ntmps227 ?_|refine gw func234 ntmps234 ?_|refine gw func238 ntmps238 ?_
 all_goals
  refine dx ?_;refine OL rfl d a ct ?_;refine dc e rfl (λ_ b k=>s _ b k (Ty.mono _ _ _ _ _ _ (Kept.of_below k) j)) ?_;refine dz λy z=> ?_;refine iG rfl (λh=> ?_) λh=> ?_
  .exact aO rfl ⟨bK,by by_cases h:G x<;>simp_all [yj,qF,DL]⟩
  .exact aO rfl ⟨bK,by by_cases h:G x<;>simp_all [yj,DL]⟩
end
theorem oZ {f0 f1 f2 f3:FuncId} (hk:Chk α T f0 f1 f2 f3) {kg lim:Nat} {kd:Int} {capg:List Value} {G:α->Prop} (ht:Tabs w) (hl:SL T F w v l) (O:enters prog kn=true) (a5:enters prog kg=true) (a9:lim<=1000)
  (a6:nm.length=l.length) (hn: ∀j x,nm[j]?=some x->NameF w kn capn j x) (hg: ∀x∈l,∀U W,ZT w W->T.rep F W U x->Gives prog kg (.agg U.toArray::capg).toArray W λu p=>ZT W p/\u= .bool (dec (G x))) :
  Gives prog f0 #[ZU kd,ZU (lim:Int),v,.func (.func kn) #[] capn.toArray,.func (.func kg) #[] capg.toArray] w λu D=>ZT w D/\FR w.heap.size (lim+1) (KindOK keys11 lim nm l G) u D:=by
 obtain ⟨A,aa,rfl,_⟩:=hl.form;have a7:=hl.bnd;obtain ⟨C,E⟩: ∃C:Nat->Nat->Nat->List Value,C=λJ H K=> [.func (.func f1) #[] #[.pointer (some ⟨H,0,none⟩)],.func (.func f2) #[] #[.pointer (some ⟨H,0,none⟩)],.func (.func f3) #[] #[.pointer (some ⟨K,0,none⟩),.pointer (some ⟨J,0,none⟩)]]:=⟨_,rfl⟩;have e:=hk;cases hk<;>first|refine gw func128 ntmps128 ?_|refine gw func131 ntmps131 ?_|refine gw func134 ntmps134 ?_|refine gw func138 ntmps138 ?_|refine gw func142 ntmps142 ?_
 all_goals
  refine nw rfl λJ w7 F7=> ?_;refine nw rfl λH w8 F8=> ?_;refine nw rfl λK w9 F9=> ?_;refine eD (C J H K) rfl ?_ (by rw [E]; kernel_rfl);refine Go.PF.nv Ul rfl (λab m c=> ?_) (hs:=by rw [E]; exact Sz.q) (hl:=by rw [E]; rfl) (h1:=by rw [E]; rfl);have L:ZT w m:=bK;have B8:=(F8.blk.next F9.below).next c.below;have B9:=F9.blk.next c.below;have B7:=((F7.blk.next F8.below).next F9.below).next c.below;refine ze m [0,1,7,11,24] 25 (min l.length lim) (λv=> [(12,none,v)]) (λi v W=>FR m.heap.size i (∀j,j<i->GoodAt nm l G j) v W) (.slice none 0 0) (FR.nil λj h=>absurd h (Nat.not_lt_zero j)) (λi fv W hi n R=> ?_) λfv W n R=> ?_
  .obtain ⟨x,hx,a0⟩:=eP (l:=l) (k:=i) ZJ;obtain ⟨s,hs,_⟩:=eP (l:=nm) (k:=i) ZJ;have o:(∀j,j<i+1->GoodAt nm l G j)↔(∀j,j<i->GoodAt nm l G j)/\yn s=0/\ym nm i s=0/\yj G x=0:=by
    rw [<-F4 hx hs];exact ⟨λh=>⟨λj I=>h j ZJ,h i ZJ⟩,λh j I=>(Nat.lt_succ_iff_lt_or_eq.1 I).elim (h.1 j) λq=>q ▸ h.2⟩
   refine la (C J H K) rfl (λj v I=>(c.blk.next n).fld I) ?_ (by rw [E]; rfl);refine BA [0,1,7,11,12,13,24,25,28] 29 3 (λk _=>(0<k->yn s=0)/\(1<k->ym nm i s=0)/\(2<k->yj G x=0)) ⟨λh=>ZJ,λh=>ZJ,λh=>ZJ⟩ (λk p hk b d=> ?_) λp b d=> ?_
   .have t:Wp (ZT w p):=⟨L.step (n.step b)⟩;obtain ⟨S,cp,r,a1,M,a2,z⟩: ∃(S:Nat) (cp:List Value) (r:Int),(C J H K)[((k:Nat):Int).toNat]?=some (.func (.func S) #[] cp.toArray)/\enters prog S=true/\Gives prog S (ZU (i:Int)::cp).toArray p (λu D=>ZT p D/\u= ZU r)/\(r=0->(0<k+1->yn s=0)/\(1<k+1->ym nm i s=0)/\(2<k+1->yj G x=0))/\(yn s=0/\ym nm i s=0/\yj G x=0->r=0):=by
     subst E;obtain rfl|rfl|rfl:k=0\/k=1\/k=2:=ZJ
     .exact ⟨_,[_],_,rfl,ZK,UD e (ht.below t.q) ((B8.next n).next b) O ((hn i s hs).below t.q),λh=>⟨λ_=>h,λh=>ZJ,λh=>ZJ⟩,λh=>h.1⟩
     .exact ⟨_,[_],_,rfl,ZK,UC e ((B8.next n).next b) O (λj y I=>(hn j y I).below t.q) hs ZJ,λh=>⟨λ_=>d.1 ZJ,λ_=>h,λh=>ZJ⟩,λh=>h.2.1⟩
     .exact ⟨_,[_,_],_,rfl,ZK,Uz e ((B9.next n).next b) ((B7.next n).next b) a5 (hl.below t.q) hx (λU X hX d=>hg x a0 U X (t.q.step hX) d),λh=>⟨λ_=>d.1 ZJ,λ_=>d.2.1 ZJ,λ_=>h⟩,λh=>h.2.2⟩
    obtain ⟨ps,Y,a3,hp⟩:=R.below b;refine iv a1 rfl ?_;refine Ue M rfl a2 λw1 c1=> ?_;refine cd rfl (λa4=> ?_) λac=> ?_
    .refine eD [ZU kd,ZU (i:Int),ZU r] rfl ?_;refine rg (T:=KP) (a:=()) AJ DD rfl (Y.step c1) ⟨rfl,rfl⟩ λg N D B t=> ?_;exact qz N (FR.put B ZJ λh=>a4 (z.2 (o.1 h).2))
    .exact ou (z.1 ZJ)
   .exact qz fv ((R.below b).imp ZJ ⟨λh=>o.2 ⟨h,d.1 ZJ,d.2.1 ZJ,d.2.2 ZJ⟩,λh=>(o.1 h).1⟩)
  .obtain ⟨ps,Y,a3,hp⟩:=R;have hb:=L.size;rw [C7 a6];refine cd rfl (λa8=> ?_) λZ=> ?_
   .refine eD [ZU kd,ZU (lim:Int),ZU 2] rfl ?_;refine rg (T:=KP) (a:=()) AJ DD rfl Y ⟨rfl,rfl⟩ λg N D B t=> ?_;exact aO rfl ⟨bK,FR.put (RowB.lo B hb) ZJ λh=>ZJ⟩
   .exact aO rfl ⟨bK,ps,RowB.lo Y hb,ZJ,hp.trans ⟨λh=>⟨ZJ,h⟩,λh=>h.2⟩⟩
def o9 (N:Net):List ByteArray:=(List.range N.cals.length).map λi=>N.names.getD i ⟨#[]⟩
theorem jR (N:Net):(o9 N).length=N.cals.length:=by simp [o9]
theorem sO (h:N.names.length=N.cals.length):o9 N=N.names:=by
 refine List.ext_getElem (by rw [jR,h]) λi b a=> ?_;simp [o9,a]
def NmC (f:FuncId) (nm:Net->List ByteArray):Prop:= ∀ {w:World} {g i:Nat} {v:NV} {N:Net} {F:Nat->Prop} {s:ByteArray},Blk w g 29 v.cells->NetIn F w v N->(nm N)[i]?=some s->Gives prog f #[ZU (i:Int),.pointer (some ⟨g,0,none⟩)] w (ZS w (.string s))
theorem NmC.nameF {f:FuncId} {nm:Net->List ByteArray} (h:NmC f nm) {v:NV} (c:Blk w g 29 v.cells) (d:NetIn F w v N): ∀j s,(nm N)[j]?=some s->NameF w f [.pointer (some ⟨g,0,none⟩)] j s:=λj s b W a=>h (c.next a) (d.below a) b
theorem Ar {β:Type} {f:α->β} {s:β} (h:(l.map f)[i]?=some s): ∃x,l[i]?=some x/\s=f x:=by
 rw [List.getElem?_map] at h;obtain ⟨x,a,rfl⟩:=Option.map_eq_some_iff.1 h;exact ⟨x,a,rfl⟩
theorem inc1_c:NmC 127 o9:=λ{w g i v N F s} m a b=>by
 have o:=a.n;have d:i<N.cals.length:=by have:=(ZE b).1; rwa [jR] at this
 have e:N.names[i]?.getD ⟨#[]⟩=s:=by simpa [o9,d] using b
 subst e;refine gw func127 ntmps127 ?_;refine cd rfl (λj=> ?_) λk=> ?_
 .have l:N.names[i]?=some N.names[i]:=ZD ZJ;exact aO rfl ⟨bK,by rw [l]; rfl⟩
 .exact aO rfl ⟨bK,by rw [List.getElem?_eq_none ZJ]; rfl⟩
theorem inc2_c:NmC 130 (·.ops):=λ{w g i v N F s} c b a=>by
 have d:=b.o;have a:N.ops[i]?=some s:=a;have e:=(ZE a).1;refine gw func130 ntmps130 ?_;exact aO rfl ⟨bK,rfl⟩
theorem inc4_c:NmC 133 (·.offs.map (·.name)):=λe b c=>by
 have d:=b.f;obtain ⟨x,a,rfl⟩:=Ar c;have g:=(ZE a).1;have i:=cell0 d ZA a λj h=>by obtain ⟨v,rfl,_⟩:=h; rfl
 refine gw func133 ntmps133 ?_;exact aO rfl ⟨bK,rfl⟩
instance:FnT KO JK:=⟨λ_ _ _ _ h=>h.1⟩
instance:FnT yB Ki:=⟨λ_ _ _ _ h=>h.1⟩
theorem inc6_c:NmC 137 (·.lines.map (·.name)):=λd a b=>by
 have e:=a.l;obtain ⟨x,c,rfl⟩:=Ar b;have g:=(ZE c).1;refine gw func137 ntmps137 ?_;exact aO rfl ⟨bK,rfl⟩
theorem inc8_c:NmC 141 (·.classes.map (·.name)):=λd a b=>by
 have e:=a.k;obtain ⟨x,c,rfl⟩:=Ar b;have g:=(ZE c).1;refine gw func141 ntmps141 ?_;exact aO rfl ⟨bK,rfl⟩
theorem Tt:Gives prog 132 #[.agg [Value.string s].toArray] w λu a=>ZT w a/\u= .bool (dec True):=by
 refine gw func132 ntmps132 ?_;refine nw rfl λg b c=> ?_;exact rT trivial
theorem Tq {v:NV} {ov:Value} {o:Of} (k:Blk w g 29 v.cells) (c:NVform v N) (h:OfIn F w ov o):Gives prog 135 #[.agg (Sv o ov).toArray,.pointer (some ⟨g,0,none⟩)] w λu a=>ZT w a/\u= .bool (dec (OfOK N o)):=by
 refine gw func135 ntmps135 ?_;refine nw rfl λd e b=> ?_;refine cv rfl (AF c (h.below b.below)) λi j=> ?_;exact aO rfl ⟨bK,rfl⟩
theorem Tp {v:NV} {l:Li} (j:Blk w g 29 v.cells) (b:NVform v N):Gives prog 139 #[.agg (JK l).toArray,.pointer (some ⟨g,0,none⟩)] w λu a=>ZT w a/\u= .bool (dec (LiOK N l)):=by
 refine gw func139 ntmps139 ?_;refine nw rfl λc d e=> ?_;refine cv rfl (FZ b) λh i=> ?_;exact aO rfl ⟨bK,rfl⟩
theorem To {l:Cla}:Gives prog 143 #[.agg (Ki l).toArray] w λu a=>ZT w a/\u= .bool (dec (ClaOK l)):=by
 refine gw func143 ntmps143 ?_;refine nw rfl λb c d=> ?_;refine cv rfl qT λe g=> ?_;refine cg rfl (λ_=>qT) λi j=> ?_;refine rB rfl ?_;simp only [Bool.and_eq_true,decide_eq_true_eq];exact ⟨λh=>⟨h.1.1,h.1.2,h.2.1,h.2.2⟩,λh=>⟨⟨h.c1,h.c2⟩,h.d1,h.d2⟩⟩
theorem Ie {v:NV} (p:Tabs w) (k:iA w v N):Gives prog 75 #[.agg v.cells.toArray] w λu z=>ZT w z/\FR w.heap.size 1000 (ConsOK keys11 N) u z:=by
 obtain ⟨D,E,L,M,O,R⟩:=id k;refine gw func75 ntmps75 ?_;refine nw rfl λg F H=> ?_;have d:Wp (ZT w F):=⟨H.below⟩;have B:=H.blk;refine jn [1] (λv=> [(3,none,v)]) (FR F.heap.size 1 (N.names.length=N.cals.length)) (λK0 K=> ?_) λn W o I=> ?_
 .refine cd rfl (λS=> ?_) λU=> ?_
  .refine eD [ZU 1,ZU (-1),ZU 1] rfl ?_;refine rg (T:=KP) (a:=()) AJ DD rfl (RowB.nil _ _ _ _) ⟨rfl,rfl⟩ λg A z C b'=> ?_;exact jd K A (FR.put C Nat.zero_lt_one ZJ)
  .exact jd K _ (FR.nil ZJ)
 refine cr rfl (oZ (lim:=6) .cal (p.below (d.q.step o)) (D.below (d.q.step o)) ZK ZK ZL (jR N) (inc1_c.nameF (B.next o) (k.below (d.q.step o))) λx _ r X m ⟨u,v,e,Y,Z,q3⟩=>by subst e; exact GC ⟨Y,Z,q3⟩) λs t i j=> ?_;refine fa rfl (I.below i) j λn W l b=> ?_;refine cr rfl (oZ (lim:=6) .opr (p.below (d.q.step b)) (L.below (d.q.step b)) ZK ZK ZL rfl (inc2_c.nameF (B.next b) (k.below (d.q.step b))) λx _ r X m ⟨e,_⟩=>by subst e; exact Tt) λs t i j=> ?_;refine fa rfl (l.below i) j λn X y c=> ?_;refine cr rfl (oZ (lim:=12) .off (p.below (d.q.step c)) (M.below (d.q.step c)) ZK ZK ZL (List.length_map _) (inc4_c.nameF (B.next c) (k.below (d.q.step c))) λx _ r X m ⟨u,e,q⟩=>by subst e; exact Tq ((B.next c).next m) (NetIn.form k) ⟨q.1,q.2.1,q.2.2.1,q.2.2.2.1,q.2.2.2.2.1,q.2.2.2.2.2.1,q.2.2.2.2.2.2⟩) λs t i j=> ?_;refine fa rfl (y.below i) j λn W l b=> ?_;refine cr rfl (oZ (lim:=40) .lin (p.below (d.q.step b)) (O.below (d.q.step b)) ZK ZK ZL (List.length_map _) (inc6_c.nameF (B.next b) (k.below (d.q.step b))) λx _ r X m ⟨e,_⟩=>by subst e; exact Tp ((B.next b).next m) (NetIn.form k)) λs t i j=> ?_;refine fa rfl (l.below i) j λn X y c=> ?_
 refine cr rfl (oZ (lim:=4) .cls (p.below (d.q.step c)) (R.below (d.q.step c)) ZK ZK ZL (List.length_map _) (inc8_c.nameF (B.next c) (k.below (d.q.step c))) λx _ r X m ⟨e,_⟩=>by subst e; exact To) λs t i j=> ?_;refine fa rfl (y.below i) j λn W l b=> ?_;obtain ⟨ps,hR,E,hp⟩:=l;refine aO rfl ⟨d.q.step b,ps,RowB.lo hR d.q.size,ZJ,hp.trans ⟨λ⟨⟨⟨⟨⟨J,h2⟩,h3⟩,h4⟩,h5⟩,h6⟩=>⟨J,sO J ▸ h2,h3,h4,h5,h6⟩,λh=>⟨⟨⟨⟨⟨h.len,(sO h.len).symm ▸ h.cals⟩,h.ops⟩,h.offs⟩,h.lines⟩,h.classes⟩⟩⟩
def kZ (M:dL):List Value:=M.map (Value.int .i64)
theorem ER {a:Nat}:(Addr.add ⟨g,0,none⟩ ((a:Int).toNat*12)).add ((b:Int).toNat*1)=Addr.add ⟨g,0,none⟩ (12*a+b):=by
 rw [add_add,dQ,dQ]
 congr 1
 omega
theorem oz {w1:World} {a:Nat} {t:TypeId} (h:Blk w1 g t (kZ M)) (hb:ZT w1 w) (hl:M.length=144) (d:a<12) (c:b<12):w.cell? ((Addr.add ⟨g,0,none⟩ ((a:Int).toNat*12)).add ((b:Int).toNat*1))=some (ZU (g12 M a b)):=by
 rw [ER];refine (h.next hb).fld ?_;unfold kZ g12;rw [List.getElem?_map,List.getD_eq_getElem?_getD,ZD ZJ];rfl
theorem ww (M:dL):(kZ M).all (·.oneCell')=true:=by simp [kZ,Value.oneCell']
theorem oC (h:M.length=144):(kZ M).length=144:=by unfold kZ; rw [List.length_map]; exact h
theorem BL (M:dL) (k:Nat) (x:Int):(kZ M).set k (ZU x)=kZ (M.set k x):=by unfold kZ; rw [List.map_set]
theorem Cf {a:Nat} {t:Int} (e:Blk w g 124 (kZ M)) (hl:M.length=144) (k:a<12) (hb:b<12):Gives prog 145 #[ZU (a:Int),ZU (b:Int),ZU t,.pointer (some ⟨g,0,none⟩)] w λ_ c=>But g w c/\c.heap.size=w.heap.size/\Blk c g 124 (kZ (eF M a b t)):=by
 have l:=oz e ZA hl k hb;refine gw func145 ntmps145 ?_;refine iG rfl (λh=> ?_) λh=> ?_
 .rw [ER];refine sf rfl e (λc d i j=> ?_) (hj:=by rw [oC hl]; omega);refine oU results145 ⟨i,j,?_⟩;unfold eF;rw [if_pos (by simpa using h),<-BL];exact d
 .refine oU results145 ⟨But.of_below ZA,rfl,?_⟩;unfold eF;rw [if_neg (by simpa using h)];exact e
theorem yU {v:NV} (hN:iA w v N) (J:LnOK 12 (dZ N)) (Y: ∀l∈N.lines,0<=l.frm/\0<=l.to):Gives prog 76 #[.agg v.cells.toArray] w (ZS w (.agg (kZ (eH (dZ N))).toArray)):=by
 have hl:=hN.l;have Z:=hl.bnd;refine gw func76 ntmps76 ?_;refine nw rfl λg1 w1 f1=> ?_;refine na G5 λg2 r f2=> ?_;refine na G5 λm w3 f3=> ?_;have k2:=f2.at_;have k3:=f3.at_;have s1:=f1.below.size;have K:Blk w3 m 124 (kZ (mR (12*0))):=by rw [FV]; unfold kZ; rw [List.map_replicate]; exact f3.blk
 refine ME r [1,2,3] 12 12 (λa W=>Blk W m 124 (kZ (mR (12*a)))) K (λa W z i c=> ?_) λW i c=> ?_
 .refine ME r [1,2,3,4,12] 15 12 (λb W=>Blk W m 124 (kZ (mR (12*a+b)))) c (λb W' A L c=> ?_) λW' L c=> ?_
  .have G:=FW (k:=12*a+b) ZJ;refine iG rfl (λO=> ?_) λR=> ?_
   .rw [if_neg (by simp at O; omega)] at G;rw [ER];refine sf rfl c (λW2 B H S=> ?_) (hj:=by rw [oC (zo _)]; omega);rw [BL,<-G] at B;exact ou B
   .rw [if_pos (by simp at R; omega)] at G;exact ou (G ▸ c)
  .exact ou c
 have c:Blk W m 124 (kZ init12):=by rw [<-JR]; exact c
 refine ME r [1,2,3,6,29,30] 31 N.lines.length (λj W=>Blk W m 124 (kZ (iw init12 ((dZ N).take j)))) c (λj W I i c=> ?_) λW i c=> ?_
 .have C:(dZ N)[j]?=some (N.lines[j].frm.toNat,N.lines[j].to.toNat,N.lines[j].trav):=by unfold dZ; rw [List.getElem?_map,ZD I]; rfl
  have D:=J _ (ZF C);obtain ⟨p1,p2⟩:=Y _ (List.getElem_mem I);refine Go.PF.nv KS rfl λg8 w8 f8=> ?_;have U:=Cf (t:=N.lines[j].trav) (c.next f8.below) (FJ J ((dZ N).take j) (λx hx=>List.mem_of_mem_take hx)).len D.1 D.2.1;dsimp only at U;rw [Int.toNat_of_nonneg p1,Int.toNat_of_nonneg p2] at U;refine cw (cap:= [_]) ZK rfl U λu w9 e=> ?_;obtain ⟨H,S,g⟩:=e;refine ou ?_;rw [ZG,C];rw [<-Aw init12 ((dZ N).take j) (N.lines[j].frm.toNat,N.lines[j].to.toNat,N.lines[j].trav)] at g;exact g
 rw [show N.lines.length=(dZ N).length by simp [dZ],List.take_length] at c;obtain ⟨s,n⟩: ∃M,M=iw init12 (dZ N):=⟨_,rfl⟩;rw [<-n] at c;have hT: ∀ {o a b:Nat},o<12->a<12->b<=12->T12 (dZ N) 40960000 (jD o (iV (iM s o) o a) a b):=λh1 h2 h3=>by rw [n]; exact Lg J h1 h2 h3
 refine ME r [2,3,6] 44 12 (λo W=>Blk W m 124 (kZ (iM s o))) (by rw [GG]; exact c) (λo W E i c=> ?_) λW i c=> ?_
 .refine ME r [2,3,6,9,44] 47 12 (λa W=>Blk W m 124 (kZ (iV (iM s o) o a))) (by rw [E9]; exact c) (λa W z i c=> ?_) λW i c=> ?_
  .refine ME r [2,3,6,9,10,44,47] 50 12 (λb W=>Blk W m 124 (kZ (jD o (iV (iM s o) o a) a b))) (by rw [E7]; exact c) (λb W A i c=> ?_) λW i c=> ?_
   .have y:=hT E z (Nat.le_of_lt A);have d:=E8 o (iV (iM s o) o a) a b;obtain ⟨M,hM⟩: ∃M,M=jD o (iV (iM s o) o a) a b:=⟨_,rfl⟩;rw [<-hM] at c y d;have c1:=oz c ZA y.len z E;have c2:=oz c ZA y.len E A;have r1:=y.rng a o z E;have r2:=y.rng o b E A;refine rn ?_;refine iG rfl (λp=> ?_) λF=> ?_
    .have hv:ol o a M b=eF M a b (g12 M a o+g12 M o b):=by unfold ol; rw [if_pos (by simpa using p)]
     refine dl 14 λw7 b7=> ?_;refine cw (cap:= [_]) ZK rfl (Cf (t:=g12 M a o+g12 M o b) (c.next b7) y.len z A) λu w9 e=> ?_;obtain ⟨H,S,g⟩:=e;refine ou ?_;rw [d,hv];exact g
    .refine ou ?_;rw [d];unfold ol;rw [if_neg (by simpa using F)];exact c
   .exact ou (Fe _ _ _ ▸ c)
  .exact ou (GH _ _ ▸ c)
 rw [n,show iM (iw init12 (dZ N)) 12=eH (dZ N) from rfl] at c;have h:=oC (nI J).1.len;refine la (kZ (eH (dZ N))) rfl (λj v I=>c.fld I) ?_ h;refine sb rfl (f2.blk.next i) (λw9 g H S=> ?_) (hn:=h) (hl:=by simp) (h1:=ww _);exact Q4 results76 underlying124 is124.q h rfl g ⟨H.below (bK:ZT w W) ZJ,rfl⟩
theorem zx (h:ConsOK keys11 N):LnOK 12 (dZ N):=h.ln.1.more h.ln.2.1
theorem DX (h:ConsOK keys11 N): ∀l∈N.lines,0<=l.frm/\0<=l.to:=λl a=>⟨(h.lines.good l a).f1,(h.lines.good l a).t1⟩
theorem Qw {v:NV} (ht:Tabs w) (S:iA w v N):Gives prog 42 #[.agg v.cells.toArray] w λu U=>ZT w U/\ ∃n,nk u n/\(n=0↔SoundOK keys11 N):=by
 have E:=S.f;have a2:=E.bnd;have s: ∀ {u:Value} {W:World} {b:Nat} {o:List (List Value×Unit)},RowB KP W 163 b u o->nk u o.length:=λh=>by simpa using (h.sl ZL).isl
 refine gw func42 ntmps42 ?_;refine nw rfl λg1 Y F=> ?_;refine cr rfl (Ie (ht.below F.below) (bA S F.below)) λu w2 Z h=> ?_;obtain ⟨o,l,hn,t⟩:=h;have hu:=s l;refine rn ?_;refine cd rfl (λa0=> ?_) λG=> ?_
 .exact aO rfl ⟨bK,_,hu,λh=>ZJ,λh=>t.2 h.cons⟩
 have c:ConsOK keys11 N:=t.1 ZJ;have hL:=zx c;have a1:=c.ln.2.1;have k:=nI hL;have x:=yU (bA (bA S F.below) Z) hL (DX c);obtain ⟨H,y⟩: ∃r,r=eH (dZ N):=⟨_,rfl⟩;rw [<-y] at k x;have m:=oC k.1.len;refine cv rfl x λw3 b3=> ?_;refine Go.PF.nv G5 rfl (λg4 w4 I=> ?_) (hs:=m ▸ Sz.q) (hl:=by rw [m]; rfl) (h1:=ww _);have a3:=I.at_;have z3:=b3.size;have z2:=Z.size;refine ze Y [1,4,17] 18 N.offs.length (λv:Value=> [(3,none,v)])
  (λb v W=>FR Y.heap.size b (∀i j,j<b->i<N.offs.length->ReachL (dZ N) i j) v W/\Blk W g4 124 (kZ H)/\ ∀g,v.ownBlock=some g->g≠g4) u
  ⟨⟨o,(l.step b3).step I.below,ZJ,λ_ i j h=>absurd h (Nat.not_lt_zero j),λ_=>ZJ⟩,I.blk,λg J e=>by have:=l.1.lt J; omega⟩ (λb v W C hW p=> ?_) λv W hW p=> ?_
 .obtain ⟨⟨o,l,a4,K⟩,D,L⟩:=p;refine BA [1,3,4,5,17,18,23] 24 N.offs.length (Seen λi=>ReachL (dZ N) i b) Seen.zero (λa W' z d p=> ?_) λW' d p=> ?_
  .have hc:=oz (a:=a) (b:=b) D d k.1.len ZJ ZJ;have A:=k.2 a b ZJ ZJ;refine rn ?_;refine cd rfl (λM=> ?_) λB=> ?_
   .refine eD [ZU 3,ZU (b:Int),ZU 111] rfl ?_;refine WC (T:=KP) (a:=()) AJ DD rfl (l.step d) ⟨rfl,rfl⟩ λg O U R b' gb on=> ?_;have:=D.lt;have:=d.size;exact qz O ⟨FR.put R ZJ λh=>(A.1 M) (h a b ZJ z),GB.blk gb (D.next d) λe=>L _ e rfl,λg J e=>(on g J).elim (λh=>L g h e) λh=>ZJ⟩
   .exact ou (p.go (Classical.byContradiction λh=>B (A.2 h)))
  .exact qz v ⟨⟨o,l.step d,ZJ,K.trans ⟨λh i j hj t=>(Nat.lt_succ_iff_lt_or_eq.1 hj).elim (λq=>h i j q t) λq=>q ▸ p i t,λh i j hj=>h i j ZJ⟩⟩,D.next d,L⟩
 .obtain ⟨⟨o,l,_,K⟩,_⟩:=p;exact aO rfl ⟨bK,_,s l,K.trans ⟨λh=>⟨c,λa b z C=>h a b C z⟩,λh a b C z=>h.all a b z C⟩⟩
theorem Io {v:NV} (f:Tabs w) (g:iA w v N):Gives prog 42 #[.agg v.cells.toArray] w λu a=>ZT w a/\ ∃A n c,u= .slice A n c/\(n=0↔SoundOK keys11 N):=(Qw f g).mono λ_ _ ⟨b,n,⟨A,c,e⟩,d⟩=>⟨b,A,n,c,e,d⟩
structure Tab (W:World) (b:Nat) (lv:Value) (rs:List (Value×List Int)):Prop where
 own:OwnS W 66 1 lv rs.length (rs.map (·.1))
 lb: ∀g,lv.ownBlock=some g->b<=g
 row: ∀p∈rs,OwnS W 3 1 p.1 p.2.length (p.2.map (Value.int .i64))/\(∀x∈p.2,fF x)/\ ∀g,p.1.ownBlock=some g->b<=g/\lv.ownBlock≠some g
 dis:rs.Pairwise λp q=> ∀g,p.1.ownBlock=some g->q.1.ownBlock≠some g
theorem Tab.step (h:Tab W b lv rs) (hb:ZT W W'):Tab W' b lv rs :=
 ⟨h.own.below hb,h.lb,λp a=>⟨(h.row p a).1.below hb,(h.row p a).2⟩,h.dis⟩
theorem Tab.app {lv' rv:Value} (h:Tab W b lv rs) (y:OwnS W' 66 1 lv' (rs.length+1) (rs.map (·.1)++ [rv])) (z:W.grownBy W' lv.ownBlock) (hn:lv'.ownBlock=lv.ownBlock\/lv'.ownBlock=some W.heap.size) (hb:b<=W.heap.size)
  (A:OwnS W 3 1 rv r.length (r.map (Value.int .i64))) (B: ∀x∈r,fF x) (j: ∀g,rv.ownBlock=some g->b<=g/\lv.ownBlock≠some g) (C: ∀p∈rs,∀g,p.1.ownBlock=some g->rv.ownBlock≠some g):Tab W' b lv' (rs++ [(rv,r)]):=by
 have f: ∀(v:Value) (n:Nat) (k:List Value),OwnS W 3 1 v n k->(∀g,v.ownBlock=some g->lv.ownBlock≠some g)->OwnS W' 3 1 v n k/\ ∀g,v.ownBlock=some g->lv'.ownBlock≠some g:=by
  intro v n k l i;refine ⟨l.kept λg a=>z.block g (l.lt a) (λe=>i g a e.symm),λg a e=> ?_⟩;rcases hn with d|d
  .exact i g a (by rw [<-d]; exact e)
  .rw [d] at e; cases e; exact absurd (l.lt a) (Nat.lt_irrefl _)
 refine ⟨by simpa using y,λg a=> ?_,λp c=> ?_,?_⟩
 .rcases hn with d|d
  .exact h.lb g (by rw [<-d]; exact a)
  .rw [d] at a; cases a; exact hb
 .rcases ZH c with c|c
  .obtain ⟨u,w,s⟩:=h.row p c;obtain ⟨m,o⟩:=f _ _ _ u (λg a=>(s g a).2);exact ⟨m,w,λg a=>⟨(s g a).1,o g a⟩⟩
  .rw [List.mem_singleton] at c;subst c;obtain ⟨m,o⟩:=f _ _ _ A (λg a=>(j g a).2);exact ⟨m,B,λg a=>⟨(j g a).1,o g a⟩⟩
 .refine List.pairwise_append.2 ⟨h.dis,List.pairwise_singleton _ _,λp c q t=> ?_⟩;rw [List.mem_singleton] at t;subst t;exact C p c
theorem Tab.set {W W':World} {b i:Nat} {lv rv:Value} {rs:List (Value×List Int)} {r r':List Int} {g:Nat} (h:Tab W b lv rs) (w:rs[i]?=some (rv,r)) (s:rv.ownBlock=some g) (hb:But g W W') (B:OwnS W' 3 1 rv r'.length (r'.map (Value.int .i64))) (C: ∀x∈r',fF x):Tab W' b lv (rs.set i (rv,r')):=by
 have d:=(ZE w).1;have m:=(ZE w).2;have y:=h.row (rv,r) (ZF w);have f:(rs.set i (rv,r')).map (·.1)=rs.map (·.1):=by
  rw [List.map_set];apply List.ext_getElem?;intro j;rw [List.getElem?_set]
  split
  .rename_i e;subst e;simp [d,m]
  .rfl
 have a: ∀k,k≠g->k<W.heap.size->W'.heap[k]?=W.heap[k]?:=λk l c=>hb.block k c (λe=>l (by cases e; rfl));refine ⟨by rw [f,List.length_set]; exact h.own.kept λk l=>a k (λe=>(y.2.2 g s).2 (by rw [<-e]; exact l)) (h.own.lt l),h.lb,λp z=> ?_,?_⟩
 .obtain ⟨j,t⟩:=List.mem_iff_getElem?.1 z;rw [List.getElem?_set] at t;by_cases n:i=j
  .subst n;simp [d] at t;subst t;exact ⟨B,C,y.2.2⟩
  .rw [if_neg n] at t;have o:=h.row p (ZF t);refine ⟨o.1.kept λk l=>a k (λe=> ?_) (o.1.lt l),o.2⟩;subst e;obtain ⟨u,v⟩:=ZE t;rcases Nat.lt_or_gt_of_ne n with c|c
   .have:=List.pairwise_iff_getElem.1 h.dis i j d u c;rw [m,v] at this;exact this k s l
   .have:=List.pairwise_iff_getElem.1 h.dis j i u d c;rw [m,v] at this;exact this k l s
 .have A:((rs.set i (rv,r')).map (·.1)).Pairwise λp q=> ∀g,p.ownBlock=some g->q.ownBlock≠some g:=by
   rw [f,List.pairwise_map];exact h.dis
  rwa [List.pairwise_map] at A
theorem Tab.nil {W:World} {b g:Nat} (d:Blk W g 66 []) (e:b<=g):Tab W b (.slice (some ⟨g,0,none⟩) 0 0) [] :=
 ⟨aU d rfl ZJ,(λq a=>by simp [Value.ownBlock] at a; omega),(λp c=>by cases c),List.Pairwise.nil⟩
theorem Tab.but (h:Tab W b lv rs) (hb:But g W W') (h1:lv.ownBlock≠some g) (d: ∀p∈rs,p.1.ownBlock≠some g):Tab W' b lv rs :=
 ⟨h.own.kept λk a=>hb.block k (h.own.lt a) (λe=>h1 (by rw [a,e])),h.lb,λp c=>⟨(h.row p c).1.kept λk a=>hb.block k ((h.row p c).1.lt a) (λe=>d p c (by rw [a,e])),(h.row p c).2⟩,h.dis⟩
theorem Tab.len (h:Tab W b lv rs):(rs.map (·.1)).length=rs.length:=List.length_map _
theorem Tab.put {tg:Nat} {rv:Value} (h:Tab W b lv rs) (B:i<rs.length) (l:lv.ownBlock=some tg) (hb:But tg W W') (w:OwnS W' 66 1 lv rs.length ((rs.map (·.1)).set i rv)) (z:OwnS W' 3 1 rv r.length (r.map (Value.int .i64))) (A: ∀x∈r,fF x)
  (m: ∀g,rv.ownBlock=some g->b<=g/\lv.ownBlock≠some g) (s: ∀p∈rs,∀g,p.1.ownBlock=some g->rv.ownBlock≠some g):Tab W' b lv (rs.set i (rv,r)):=by
 refine ⟨by rw [List.map_set,List.length_set]; exact w,h.lb,λp a=> ?_,?_⟩
 .rcases List.mem_or_eq_of_mem_set a with a|a
  .obtain ⟨n,t,o⟩:=h.row p a;exact ⟨n.kept λk q=>hb.block k (n.lt q) (λe=>(o k q).2 (by cases e; exact l)),t,o⟩
  .subst a;exact ⟨z,A,m⟩
 .rw [List.pairwise_iff_getElem];intro x y u v f;have c:x<rs.length:=by simpa using u
  have d:y<rs.length:=by simpa using v
  rw [List.getElem_set,List.getElem_set]
  split
  .rw [if_neg ZJ];intro g j e;exact s _ (List.getElem_mem d) g e j
  .split
   .intro g j;exact s _ (List.getElem_mem c) g j
   .exact List.pairwise_iff_getElem.1 h.dis x y c d f
theorem Tab.start {n:Nat} (f:Blk W g 66 (List.replicate n (.slice none 0 0))) (d:b<=g) (hn:n<=9223372036854775807):Tab W b (.slice (some ⟨g,0,none⟩) n n) (List.replicate n (.slice none 0 0,[])):=by
 refine ⟨?_,(λq e=>by simp [Value.ownBlock] at e; omega),(λp a=> ?_),?_⟩
 .rw [List.length_replicate,List.map_replicate];exact aU f ZM hn
 .rw [List.mem_replicate] at a;rw [a.2];exact ⟨OwnS.nil _ _ _,(λx c=>by cases c),(λg d=>by simp [Value.ownBlock] at d)⟩
 .rw [List.pairwise_iff_getElem];simp [Value.ownBlock]
def E5 (M:dL) (n a:Nat):List Int:=(List.range n).map λb=>g12 M a b
def mU (M:dL) (n:Nat):List (List Int):=(List.range n).map λa=>E5 M n a
theorem NC {v:NV} (ht:Tabs w) (hN:iA w v N) (t:ConsOK keys11 N):Gives prog 33 #[.agg v.cells.toArray] w λu Y=>ZT w Y/\SL (sliceT aS) (λk=>w.heap.size<=k/\k<Y.heap.size) Y u (mU (eH (dZ N)) N.offs.length):=by
 have a3:=hN.f;have hL:=zx t;have a1:=t.ln.2.1;refine gw func33 ntmps33 ?_;refine nw rfl λg1 w1 Z=> ?_;refine cr rfl (Ie (ht.below Z.below) (bA hN Z.below)) λu w2 C h=> ?_;obtain ⟨k,hu,_,hk⟩:=h.isl;refine rn ?_;refine cd rfl (λa2=> ?_) λa0=> ?_
 .exact absurd (hk.2 t) ZJ
 have d:=(nI hL).1;have D:=yU (bA (bA hN Z.below) C) hL (DX t);obtain ⟨M,hM⟩: ∃M,M=eH (dZ N):=⟨_,rfl⟩;rw [<-hM] at d D ⊢;have g:=oC d.len;refine cv rfl D λw3 b3=> ?_;refine Go.PF.nv G5 rfl (λg4 w4 f4=> ?_) (hs:=g ▸ Sz.q) (hl:=by rw [g]; rfl) (h1:=ww _);have b4:Wp (ZT w w4):=⟨bK⟩;refine ms Qg KQ rfl λO w5 f5=> ?_;have q5:=f5.at_;have z5:=f5.size;have z4:=b4.q.size;obtain ⟨z,n⟩: ∃z:Nat->Value,z=λr=> .slice (some ⟨r,0,none⟩) N.offs.length N.offs.length:=⟨_,rfl⟩;refine ze w4 [1,3,4,18] 19 N.offs.length (λ_:List Nat=> [])
  (λa c W=>c.length=a/\Blk W O 66 (c.map z++List.replicate (N.offs.length-a) (.slice none 0 0))/\ ∀i r,c[i]?=some r->O<r/\Blk W r 3 ((E5 M N.offs.length i).map (.int .i64))) []
  ⟨rfl,by simpa using f5.blk,λi r h=>by cases h⟩ (λa c W ha hW o=> ?_) λc W hW o=> ?_
 .obtain ⟨A,B,p⟩:=o;have a4:=B.lt;refine ms ji Ub rfl λs wr E=> ?_;have qr:=E.at_;have zr:=E.size;refine sf rfl (B.next E.below) (λW1 e G a5=> ?_) (hj:=by simp; omega);have e1:((c.map z++List.replicate (N.offs.length-a) (Value.slice none 0 0)).set ((a:Int).toNat*1) (.slice (some ⟨s,0,none⟩) N.offs.length N.offs.length))=(c++ [s]).map z++List.replicate (N.offs.length-(a+1)) (.slice none 0 0):=by
   rw [show (a:Int).toNat*1=a by omega,Du (by simp [A]) ha,List.map_append,n];rfl
  rw [e1] at e;have t: ∀ {X:World},Blk X O 66 ((c++ [s]).map z++List.replicate (N.offs.length-(a+1)) (.slice none 0 0))->X.cell? (Addr.add ⟨O,0,none⟩ ((a:Int).toNat*1))=some (.slice (some ⟨s,0,none⟩) N.offs.length N.offs.length):=λh=>h.fld (by rw [show (a:Int).toNat*1=a by omega,List.getElem?_append_left ZO,List.getElem?_map,List.getElem?_append_right ZJ,A,Nat.sub_self,n]; rfl);have a6:=t e;refine rn ?_;refine ME w4 [1,3,4,5,18,19,33] 34 N.offs.length (λj R=>But s W1 R/\Blk R s 3 (((List.range j).map (g12 M a)++List.replicate (N.offs.length-j) 0).map (.int .i64))) ⟨But.of_below ZA,by
   have:=G.blk E.blk ZJ;simpa using this⟩ (λj R hj y o=> ?_) λR y o=> ?_
  .obtain ⟨H,S⟩:=o;have a7:=t (H.blk e ZJ);have a8:=oz (a:=a) (b:=j) f4.blk y d.len ZJ ZJ;refine dl 11 λW2 C=> ?_;refine sf rfl (S.next C) (λW3 I J a9=> ?_) (hj:=by simp; omega);refine ou ⟨(H.step C).trans J,?_⟩ (hb:=J.below (y.step C) ZJ);rw [<-List.map_set,show (j:Int).toNat*1=j by omega,Du ZM hj] at I;rw [show (List.range (j+1)).map (g12 M a)=(List.range j).map (g12 M a)++ [g12 M a j] by rw [List.range_succ,List.map_append]; rfl];exact I
  .obtain ⟨H,S⟩:=o;rw [Nat.sub_self,List.replicate_zero,List.append_nil] at S;refine qz (c++ [s]) ⟨by simp [A],H.blk e ZJ,λi r m=> ?_⟩;rcases ZI i c.length with h|h
   .rw [List.getElem?_append_left h] at m;obtain ⟨q1,K⟩:=p i r m;exact ⟨q1,H.blk (G.blk (K.next E.below) ZJ) (by have:=K.lt; omega)⟩
   .have hi:=(ZE m).1;simp at hi;obtain rfl:i=a:=ZJ;rw [List.getElem?_append_right ZJ,A,Nat.sub_self] at m;cases m;exact ⟨ZJ,S⟩
 .obtain ⟨A,B,p⟩:=o;rw [Nat.sub_self,List.replicate_zero,List.append_nil] at B;have h:=Pp (T:=aS) (F:=λk=>w.heap.size<=k/\k<W.heap.size) (L:=mU M N.offs.length) B ⟨ZJ,B.lt⟩ (by simp [mU,A]) (by simp [mU]; omega) λi u l hu U=>by
   obtain ⟨r,m,rfl⟩:=Ar hu;obtain ⟨q1,K⟩:=p i r m;have hi:=(ZE m).1;obtain rfl:l=E5 M N.offs.length i:=by
    have:(mU M N.offs.length)[i]?=some (E5 M N.offs.length i):=by unfold mU; rw [List.getElem?_map,List.getElem?_range ZJ]; rfl
    rw [this] at U;cases U;rfl
   have hs:=Ic (F:=λk=>w.heap.size<=k/\k<W.heap.size) K ⟨ZJ,K.lt⟩ (λx U=>by
    obtain ⟨b,hb,rfl⟩:=List.mem_map.1 U;have aa:=List.mem_range.1 hb;have:=d.rng i b ZJ ZJ;exact ⟨ZJ,ZJ⟩) (by simp [E5]; omega)
   rw [show (E5 M N.offs.length i).length=N.offs.length by simp [E5]] at hs;rw [n];exact hs
  rw [show (mU M N.offs.length).length=N.offs.length by simp [mU]] at h;exact aO rfl ⟨b4.q.step hW,h⟩
end Go.Proofs.YtoleahhfkpkcjaaGreatDoor
