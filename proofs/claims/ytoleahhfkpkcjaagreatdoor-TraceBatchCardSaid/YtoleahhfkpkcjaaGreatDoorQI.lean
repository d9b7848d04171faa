/- Texts of this claim,joined. -/
import Derived.Test.YtoleahhfkpkcjaaGreatDoorQH
import Derived.Lib.ItoaLen
import Derived.Lib.Join
import Derived.Lib.RowBridge
import Derived.Sort.OwnSortedInts
import Derived.Shelf.SlSortCmp.WholeK
import Derived.Shelf.SlSortCmp.NoneTotal
set_option linter.unusedSimpArgs false
set_option linter.unusedVariables false
set_option maxRecDepth 100000
set_option maxHeartbeats 4000000
variable {w w':Go.World} {v u:Go.Value} {m:List (ByteArray×Go.Value)} {l:List Go.Ord.Sc} {r:List Go.Ord.Rc} {F own:Nat->Prop} {qs:List (Go.Ord.Ev×Go.Value)} {lab:ByteArray} {base k b fb g n i bl bh:Nat} {S:Go.Ord.Ev->Prop} {cap:List Go.Value} {e:Go.Ord.Ev} {us:List Go.Ord.U} {gf:Go.FuncId} {zs:List Int} {c:List Nat} {α:Type} {s:Go.Ord.St}
namespace Go.Ord
section
open Go.Lib
def zb (l:List UInt8):Nat:=l.foldl (λa b=>10*a+(b.toNat-48)) 0
theorem FB (l:List UInt8) (b:UInt8):zb (l++ [b])=10*zb l+(b.toNat-48):=by
 unfold zb;rw [List.foldl_append];rfl
theorem pX {d:Nat} (h:d<10):(UInt8.ofNat (48+d)).toNat=48+d:=by
 rw [UInt8.toNat_ofNat'];omega
theorem pQ (u:Nat):zb (decDigits u)=u:=by
 induction u using Nat.strongRecOn with
 | ind u a =>
  rw [decDigits]
  split
  .rename_i h;show 10*0+((UInt8.ofNat (48+u)).toNat-48)=u;rw [pX h];omega
  .rw [FB,a (u / 10) ZJ,pX ZJ];omega
theorem uw (u:Nat): ∀b∈decDigits u,48<=b.toNat/\b.toNat<=57:=by
 induction u using Nat.strongRecOn with
 | ind u c =>
  rw [decDigits]
  split
  .rename_i h;intro b a;rw [List.mem_singleton] at a;subst a;rw [pX h];omega
  .intro b a;rcases ZH a with a|a
   .exact c (u / 10) ZJ b a
   .rw [List.mem_singleton] at a;subst a;rw [pX ZJ];omega
theorem MQ {m n:Int} (h:itoa m=itoa n):m=n:=by
 unfold itoa at h;have f: ∀(a b:Nat),(45:UInt8)::decDigits a=decDigits b->False:=λa b e=>by
  have:=uw b 45 (by rw [<-e]; simp);have g:(45:UInt8).toNat=45:=rfl;omega
 by_cases c:m<0<;>by_cases d:n<0
 .rw [if_pos c,if_pos d] at h;have:=congrArg zb (List.cons.inj h).2;rw [pQ,pQ] at this;omega
 .rw [if_pos c,if_neg d] at h;exact (f _ _ h).elim
 .rw [if_neg c,if_pos d] at h;exact (f _ _ h.symm).elim
 .rw [if_neg c,if_neg d] at h;have:=congrArg zb h;rw [pQ,pQ] at this;omega
theorem FN (n:Int):(32:UInt8) ∉ itoa n:=by
 have a:(32:UInt8).toNat=32:=rfl;unfold itoa
 split
 .intro h;rcases List.mem_cons.1 h with h|h
  .exact absurd h ZL
  .have:=uw _ _ h; omega
 .intro h;have:=uw _ _ h;omega
theorem MP {n:Int} (a: -9223372036854775808<=n) (h1:n<=9223372036854775807):(itoa n).length<=21:=by
 unfold itoa
 split
 .rw [List.length_cons,decDigits_length];have:=nDigits_le20 n.natAbs ZJ;omega
 .rw [decDigits_length];have:=nDigits_le20 n.toNat ZJ;omega
def K5:List UInt8->List (List UInt8)
 | []=> [[]]
 | c::cs=>if c=32 then []::K5 cs else match K5 cs with
  | []=> [[c]]
  | x::xs=>(c::x)::xs
theorem BE: ∀ {w:List UInt8},(32:UInt8) ∉ w->K5 w= [w]
 | [],_=>rfl
 | c::w,h=>by
  have a:c≠32:=λe=>h (by simp [e]);have b:=BE (w:=w) (λe=>h (by simp [e]));simp [K5,a,b]
theorem BF: ∀ {w rest:List UInt8},(32:UInt8) ∉ w->K5 (w++32::rest)=w::K5 rest
 | [],rest,_=>by simp [K5]
 | c::w,rest,h=>by
  have h1:c≠32:=λe=>h (by simp [e]);have h2:=BF (w:=w) (rest:=rest) (λe=>h (by simp [e]));show K5 (c::(w++32::rest))=_;rw [K5,if_neg h1,h2]
theorem wX (x y:List UInt8) (xs:List (List UInt8)):join (x::y::xs) [32]=x++32::join (y::xs) [32]:=by
 unfold join List.intercalate;simp
theorem join_one (x:List UInt8):join [x] [32]=x:=by
 unfold join List.intercalate;simp
theorem wm: ∀ {a:List (List UInt8)},a≠ []->(∀x∈a,(32:UInt8) ∉ x)->K5 (join a [32])=a
 | [],h,_=>absurd rfl h
 | [x],_,h=>by rw [join_one,BE (h x ZM)]
 | x::y::a,_,h=>by
  rw [wX,BF (h x ZM),wm ZM λz b=>h z (by simp at b ⊢; exact .inr b)]
theorem C9: ∀(a:List (List UInt8)),(∀x∈a,x.length<=21)->(join a [32]).length<=a.length*22
 | [],_=>by simp [join]
 | [x],h=>by rw [join_one]; have:=h x ZM; simp; omega
 | x::y::a,h=>by
  rw [wX];have d:=h x ZM;have c:=C9 (y::a) λz b=>h z (by simp at b ⊢; exact .inr b);simp only [List.length_append,List.length_cons] at c ⊢;omega
theorem rZ: ∀ {a b:List Int},a.map itoa=b.map itoa->a=b
 | [],[],_=>rfl
 | [],_::_,h=>by simp at h
 | _::_,[],h=>by simp at h
 | x::a,y::b,h=>by
  simp only [List.map_cons,List.cons.injEq] at h;rw [MQ h.1,rZ h.2]
def mz (e:Ev):List ByteArray:=(dE e).map λn=>⟨(itoa n).toArray⟩
def ja (e:Ev):ByteArray:=⟨(join ((mz e).map (·.data.toList)) [32]).toArray⟩
theorem nC (e:Ev):(mz e).map (·.data.toList)=(dE e).map itoa:=by
 unfold mz;rw [List.map_map];refine List.map_congr_left λn _=> ?_;simp
theorem tY {f:Ev} (h:ja e=ja f):e=f:=by
 unfold ja at h;have d:join ((dE e).map itoa) [32]=join ((dE f).map itoa) [32]:=by
  rw [nC,nC] at h;have:=congrArg (λs:ByteArray=>s.data.toList) h;simpa using this
 have a: ∀g:Ev,(dE g).map itoa≠ []:=λg h=>by simp [dE] at h
 have b: ∀g:Ev,∀x∈(dE g).map itoa,(32:UInt8) ∉ x:=λg x i=>by
  obtain ⟨n,_,rfl⟩:=List.mem_map.1 i;exact FN n
 have c:=congrArg K5 d;rw [wm (a e) (b e),wm (a f) (b f)] at c;exact wW (rZ c)
end
end Go.Ord
namespace Go.Proofs.YtoleahhfkpkcjaaGreatDoor
open Go.Proofs.Tryz
open Go.PF Go.RowKit Go.Ord
section
open Go.Sort
attribute [local irreducible] TW CW KW DW
theorem Pi {xs:List Int} (h:OwnS w 3 1 v xs.length (xs.map (Value.int .i64))) (hn:xs.length<4611686018427387904) :
  Gives prog 173 #[v] w λ_ a=>w.grownBy a v.ownBlock/\OwnS a 3 1 v xs.length ((xs.mergeSort λx y=>decide (x<=y)).map (Value.int .i64)):=by
 rcases h.2 with ⟨rfl,f⟩|⟨g,b,i,rfl,j,c,k,l,m,d⟩
 .have o:=List.eq_nil_of_length_eq_zero f;subst o;refine (Tryz.slices_Sort_int_none none 0 w).mono ?_;rintro e a ⟨rfl,rfl⟩;exact ⟨_,rfl,⟨rfl,rfl,rfl,ZC,λ_ _ _=>rfl⟩,by simpa using OwnS.nil a _ 1⟩
 .have p:=holds_of_blockI c (by rw [Nat.mul_one] at d; exact d);refine (Tryz.slices_Sort_int g 0 b xs w p (Array.getElem?_eq_some_iff.1 c).1 hn).mono ?_;rintro e a ⟨rfl,n,q,rfl⟩;exact ⟨_,rfl,grownBy_sortedI _,ownsRow_sortedI ZM j c k l m⟩
theorem Gq (h:OwnS w 3 1 v zs.length (zs.map (Value.int .i64))) (hn:zs.length<=9223372036854775807) :
  Gives prog 174 #[v] w λu f=>w.grownBy f v.ownBlock/\OwnS f 3 1 u (Lib.compact zs).length ((Lib.compact zs).map (Value.int .i64))/\u.ownBlock=v.ownBlock:=by
 rcases h.2 with ⟨rfl,s⟩|⟨g,i,j,rfl,t,n,x,y,z,o⟩
 .have A:=List.eq_nil_of_length_eq_zero s;subst A;refine (Tryz.slices_Compact_int_empty none 0 w).mono ?_;rintro e f ⟨rfl,rfl⟩;exact ⟨_,rfl,⟨rfl,rfl,rfl,ZC,λ_ _ _=>rfl⟩,by simpa [Lib.compact,Lib.compactUpTo] using OwnS.nil f _ 1,rfl⟩
 .have B:=holds_of_blockI n (by rw [Nat.mul_one] at o; exact o);have l:=Lib.compact_length_le zs;refine (Tryz.slices_Compact_int g 0 i zs w B hn x).mono ?_;rintro e f ⟨rfl,q,rfl⟩;obtain ⟨c,p⟩: ∃c,c=Lib.compact zs:=⟨_,rfl⟩;obtain ⟨d,a⟩: ∃d:List Int,d=c++List.replicate (zs.length-c.length) 0:=⟨_,rfl⟩;rw [<-p,<-a];rw [<-p] at l;have C:d.length=zs.length:=by rw [a]; simp; omega
  have b:(putRow (Value.int .i64) (Sort.ahead w q) g 0 d.toArray).heap[g]?=some (.cells (putCells (Value.int .i64) 0 d.toArray j) 3 (0,0)):=by
   simp [putRow,mapBlock,Array.getElem?_modify,n,onCells]
  refine ⟨_,rfl,⟨rfl,rfl,rfl,by simp [mapBlock],λk E m=> ?_⟩,⟨ZM,.inr ⟨g,i,_,rfl,t,b,ZJ,y,by simp [putCells,z],?_⟩⟩,rfl⟩
  .have:g≠k:=λe=>m (by rw [e]; rfl);simp [putRow,mapBlock,Array.getElem?_modify,this]
  .have D:=take_putCellsI j d ZJ;rw [Nat.mul_one];have r:=congrArg (List.take c.length) D;rw [List.take_take,Nat.min_eq_left ZJ] at r;rw [r,a,List.map_append,List.take_append_of_le_length ZM,List.take_of_length_le ZM]
theorem AX (hs:zs.Pairwise (· <= ·)):Inc (Lib.compact zs)/\ ∀x,x∈Lib.compact zs↔x∈zs:=by
 have d: ∀j,j<zs.length->zs.toArray[j]! = zs.getD j 0:=λj c=>by simp [c]
 have k: ∀i j,i<j->j<zs.length->zs.getD i 0<=zs.getD j 0:=λi j o c=>by
  have:=List.pairwise_iff_getElem.1 hs i j ZJ c o;simpa [c,show i<zs.length by omega] using this
 have p: ∀m,m<=zs.length->Inc (Lib.compactUpTo zs.toArray m)/\(∀x,x∈Lib.compactUpTo zs.toArray m↔ ∃j,j<m/\zs.getD j 0=x):=by
  intro m
  induction m with
  | zero=>exact λ_=>⟨by simp [Lib.compactUpTo,Inc],λx=>by simp [Lib.compactUpTo]⟩
  | succ m r =>
   intro t;obtain ⟨l,n⟩:=r ZJ;rw [Lib.compactUpTo_succ,d m ZJ];by_cases g:Lib.keeps zs.toArray m=true
   .rw [if_pos g];have h:m=0\/zs.getD m 0≠zs.getD (m-1) 0:=by
     unfold Lib.keeps at g;rw [decide_eq_true_eq,d m ZJ,d (m-1) ZJ] at g;exact g
    refine ⟨List.pairwise_append.2 ⟨l,List.pairwise_singleton _ _,λa s b q=> ?_⟩,λx=> ?_⟩
    .rw [List.mem_singleton] at q;obtain ⟨j,c,rfl⟩:=(n a).1 s;rcases h with rfl|h
     .omega
     .have u:=k (m-1) m ZJ ZJ;by_cases f:j=m-1
      .subst f; omega
      .have v:=k j (m-1) ZJ ZJ;omega
    .rw [List.mem_append,n,List.mem_singleton];constructor
     .rintro (⟨j,c,rfl⟩|rfl)
      .exact ⟨j,ZJ,rfl⟩
      .exact ⟨m,ZJ,rfl⟩
     .rintro ⟨j,c,rfl⟩;by_cases f:j=m
      .subst f; exact .inr rfl
      .exact .inl ⟨j,ZJ,rfl⟩
   .rw [if_neg g,List.append_nil];have h:m≠0/\zs.getD m 0=zs.getD (m-1) 0:=by
     unfold Lib.keeps at g;rw [decide_eq_true_eq,d m ZJ,d (m-1) ZJ] at g;exact ⟨λe=>g (.inl e),Classical.byContradiction λe=>g (.inr e)⟩
    refine ⟨l,λx=> ?_⟩;rw [n];constructor
    .rintro ⟨j,c,rfl⟩;exact ⟨j,ZJ,rfl⟩
    .rintro ⟨j,c,rfl⟩;by_cases f:j=m
     .subst f; exact ⟨j-1,ZJ,h.2.symm⟩
     .exact ⟨j,ZJ,rfl⟩
 obtain ⟨l,n⟩:=p zs.length ZC;refine ⟨l,λx=> ?_⟩;unfold Lib.compact;rw [n,List.mem_iff_getElem?];constructor
 .rintro ⟨j,c,rfl⟩;exact ⟨j,by simp [c]⟩
 .rintro ⟨j,c⟩;obtain ⟨l,n⟩:=ZE c;exact ⟨j,l,by simp [c]⟩
theorem uk {c:List Int}:Inc (Lib.compact (c.mergeSort λx y=>decide (x<=y)))/\ ∀x,x∈Lib.compact (c.mergeSort λx y=>decide (x<=y))↔x∈c:=by
 have f:(c.mergeSort λx y=>decide (x<=y)).Pairwise (· <= ·):=by
  have:=List.pairwise_mergeSort (le:=λx y:Int=>decide (x<=y)) (λa b c d e=>by simp at *; omega) (λa b=>ZO) c;exact this.imp λh=>by simpa using h
 obtain ⟨d,e⟩:=AX f;exact ⟨d,λx=>by rw [e,List.mem_mergeSort]⟩
theorem D4 {l:List Int} (hl:SL aS F w v l) (hs:l.length<=1000000):Gives prog 97 #[v] w λx o=>ZT w o/\OwnS o 3 1 x l.length (l.map (Value.int .i64))/\ ∀g,x.ownBlock=some g->w.heap.size<=g:=by
 obtain ⟨A,p,rfl,_⟩:=hl.form;refine gv func97 ntmps97 ?_;refine aB ?_;refine aK rfl (λd=> ?_) (λe=> ?_)
 .refine aB ?_;have r:l= []:=by
   cases l with
   | nil=>rfl
   | cons a l =>
    obtain ⟨z,rfl⟩:=hl.addr ZM;cases d
  subst r;refine aO rfl ⟨ZA,OwnS.nil _ _ _,λg s=>(by simp [Value.ownBlock] at s)⟩
 .refine aB ?_;refine bL 3 rfl rfl kC ?_;rintro g t b;refine aB ?_;have u:OwnS t 3 1 (.slice (some ⟨g,0,none⟩) 0 0) 0 []:=aU b.blk rfl ZL;have i:=hl.below b.below;refine aT (l.map (Value.int .i64)) rfl rfl ji rfl u rfl ZM (vK i) (iK _) ZJ ZJ ?_;rintro B y j k m;refine aB ?_;have n:=b.below.grown k b.below.size (λq c=>by simp [Value.ownBlock] at c; have:=b.at_; omega);refine aO rfl ⟨n,by simpa using j,λq c=> ?_⟩;rcases m with h|h
  .rw [h] at c; simp [Value.ownBlock] at c; have:=b.at_; omega
  .rw [h] at c; cases c; exact b.below.size
theorem Qe {l:List Int} {x:Int} (hl:SL aS F w v l) :
  Gives prog 239 #[v,ZU x] w λu j=>j=w/\((u= ZU (-1)/\x ∉ l)\/ ∃i:Nat,u= ZU (i:Int)/\x∈l):=by
 obtain ⟨A,b,rfl,_⟩:=hl.form;have g:=hl.len.2.2;refine gv func239 ntmps239 ?_;refine aB ?_;refine bT (λi:Nat=> [(0,none,.slice A l.length b),(1,none,ZU x),(7,none,ZU (l.length:Int)),(8,none,ZU (i:Int))])
  (λi W=>i<=l.length/\W=w/\x ∉ l.take i) (λi=>l.length-i) 0 [0,1,7,8] ⟨ZJ,rfl,ZM⟩ rfl ?_
 rintro i W ⟨o,rfl,a⟩;refine aB ?_;refine aI rfl (λm=> ?_) (λn=> ?_)
 .obtain ⟨y,h,c⟩:=eP (l:=l) (k:=i) ZJ;obtain ⟨p,rfl⟩:=hl.addr ZJ;refine aB ?_;refine aG rfl (hl.getI h) ?_;refine aB ?_;refine dC [0,1,5,7,8,16] rfl ?_;refine aI rfl (λd=> ?_) (λe=> ?_)
  .refine aB ?_;refine aO rfl ⟨rfl,.inr ⟨i,rfl,by rw [d]; exact c⟩⟩
  .refine aB ?_;refine bH (i+1) [0,1,7,8] rfl ⟨ZJ,rfl,?_⟩ ZJ;rw [ZG,h];simp;exact ⟨a,e⟩
 .refine aB ?_;refine aO rfl ⟨rfl,.inl ⟨rfl,?_⟩⟩;rw [show i=l.length by omega,List.take_length] at a;exact a
theorem xz {l:List Int} {x:Int} (hl:SL aS F w v l) :
  Gives prog 147 #[v,ZU x] w λu b=>ZT w b/\u= .bool (decide (x∈l)):=by
 refine gv func147 ntmps147 ?_;refine aB ?_;refine aN rfl (Qe hl) ?_;rintro y c ⟨rfl,a⟩;rcases a with ⟨rfl,a⟩|⟨i,rfl,a⟩
 .skip
  refine aB ?_;refine aO rfl ⟨ZA,by simp [a]⟩
 .skip
  refine aB ?_;refine aO rfl ⟨ZA,by simp [a]⟩
structure TabI (w:World):Prop where
 pow:Lib.TabIs prog w "internal/strconv.uint64pow10" .u64 Lib.pow10Tab
theorem TabI.below (h:TabI w) (hb:ZT w w'):TabI w':=by
 refine ⟨?_⟩;have a:=h.pow;unfold Lib.TabIs World.var? at a ⊢
 cases d:prog.globalNamed "internal/strconv.uint64pow10" with
 | none=>rw [d] at a; cases a
 | some g =>
  rw [d] at a;simp only [Option.bind_some] at a ⊢;rcases ZI g w.heap.size with b|c
  .rw [hb.block g b]; exact a
  .rw [Array.getElem?_eq_none c] at a; cases a
theorem Dj (w:World) (n:Nat) (os:Array Obj):ZT w (grow (w.drewN n) os) :=
 ⟨rfl,rfl,rfl,ZM,λi a=>by
  show (w.heap++os)[i]?=w.heap[i]?;rw [Array.getElem?_append_left a]⟩
theorem Tm {n:Int} (hn:fF n) (c:TabI w):Gives prog 240 #[ZU n] w λu a=>ZT w a/\u= .string ⟨(Lib.itoa n).toArray⟩:=by
 refine Calls.mono (Tryz.strconv_Itoa n hn.1 hn.2 w c.pow) ?_;rintro e a ⟨rfl,k,b,rfl⟩;exact ⟨_,rfl,Dj w k b,rfl⟩
theorem Tk {xs:List ByteArray} {sep:ByteArray} (h:OwnS w 9 1 v xs.length (xs.map Value.string)) (r:xs.length<=1000000) (a:(Lib.join (xs.map (·.data.toList)) sep.data.toList).length<=140737488355328) :
  Gives prog 241 #[v,.string sep] w λu b=>ZT w b/\u= .string ⟨(Lib.join (xs.map (·.data.toList)) sep.data.toList).toArray⟩:=by
 rcases h.2 with ⟨rfl,k⟩|⟨g,c,l,rfl,o,f,m,p,q,i⟩
 .have d:=List.eq_nil_of_length_eq_zero k;subst d;refine (Tryz.strings_Join_none none 0 sep w).mono ?_;rintro e b ⟨rfl,rfl⟩;exact ⟨_,rfl,ZA,by simp [Lib.join]⟩
 .refine Calls.mono (Tryz.strings_Join g 0 c xs sep w (λj x d=> ?_) (Array.getElem?_eq_some_iff.1 f).1 ZJ m a) ?_
  .have:(xs.map Value.string)[j]?=some (.string x):=by simp [d]
   rw [<-i,List.getElem?_take] at this
   split at this
   .simp [World.cell?,f];simpa using this
   .cases this
  .rintro e b ⟨rfl,n⟩;exact ⟨_,rfl,n,rfl⟩
theorem RL (h:EvOK F w v e) (hn:e.needs.length<=1000) (ht:TabI w) :
  Gives prog 149 #[.agg (l8 e v).toArray] w λx U=>ZT w U/\x= .string (ja e):=by
 obtain ⟨A,Y,rfl,_⟩:=h.nd.form;have Z:(dE e).length<=1004:=by simp [dE]; omega
 have a0:(mz e).length=(dE e).length:=by simp [mz]
 refine gv func149 ntmps149 ?_;refine aB ?_;refine bS rfl rfl rfl rfl ?_;rintro g1 w1 D;refine aB ?_;refine fP rfl (λ_ _ hv=>D.blk.fld hv) ?_;refine aN rfl (ML (h.below D.below) ZJ) ?_;rintro y2 m ⟨E,a1,c⟩;obtain ⟨K,o,rfl,_⟩:=c.form;have d:=nE c;have p:=D.below.step E.b;refine aB ?_;refine bT (λx:Nat×Value=> [(3,none,x.2),(7,none,.slice K (dE e).length o),(8,none,ZU ((dE e).length:Int)),(9,none,ZU (x.1:Int))])
  (λx W=>x.1<=(dE e).length/\ZT m W/\OwnS W 9 1 x.2 x.1 (((mz e).take x.1).map Value.string)/\ ∀g,x.2.ownBlock=some g->m.heap.size<=g) (λx=>(dE e).length-x.1) (0,.slice none 0 0) [3,7,8,9] ⟨ZB,ZA,by simpa using OwnS.nil _ _ _,λg q=>by simp [Value.ownBlock] at q⟩ rfl ?_
 rintro ⟨k,wv⟩ W ⟨hk,z,B,i⟩;dsimp only at hk z B i;have r:=p.step z;refine aB ?_;refine aI rfl (λa2=> ?_) (λa3=> ?_)
 .obtain ⟨n,C,G⟩:=eP (l:=dE e) (k:=k) ZJ;have s:=c.below z;obtain ⟨ad,rfl⟩:=s.addr ZJ;refine aB ?_;refine aG rfl (s.getI C) ?_;refine aB ?_;refine aN rfl (Tm (d n G) (ht.below r)) ?_;rintro y3 w3 ⟨t,rfl⟩;refine bI 9 _ rfl rfl rfl yx (aA rfl ct aJ) rfl rfl rfl rfl rfl ?_;rintro g4 w4 H;have I:=(B.below t).below H.below;refine aT [.string ⟨(Lib.itoa n).toArray⟩] rfl rfl Dl rfl I rfl rfl (λj u hj=>⟨_,rfl,H.blk.fld hj⟩) (λu S=>by simp at S; subst S; rfl) ZJ ZJ ?_;rintro v5 w5 J L M;refine aB ?_;have a:=(z.step t).step H.below;have y:ZT m w5:=a.grown L a.size i;refine bH (k+1,v5) [3,7,8,9] rfl ⟨ZJ,y,?_,λg q=> ?_⟩ ZJ
  .have hw:(mz e)[k]?=some ⟨(Lib.itoa n).toArray⟩:=by simp [mz,C]
   rw [ZG,hw];simpa using J
  .rcases M with h|h
   .exact i g (by rw [<-h]; exact q)
   .rw [h] at q; cases q; exact a.size
 .refine aB ?_;have N:k=(mz e).length:=ZJ;subst N;rw [List.take_length] at B;have O:(Lib.join ((mz e).map (·.data.toList)) (⟨#[32]⟩:ByteArray).data.toList).length<=140737488355328:=by
   rw [nC];have:=C9 ((dE e).map Lib.itoa) λx C=>by
    obtain ⟨n,hn,rfl⟩:=List.mem_map.1 C;exact MP (d n hn).1 (d n hn).2
   simp at this ⊢;omega
  refine aN rfl (Tk B ZJ O) ?_;rintro y6 w6 ⟨R,rfl⟩;refine aB ?_;refine aO rfl ⟨r.step R,rfl⟩
end
section
open Go.Sort
attribute [local irreducible] TW CW KW DW
def LookIs (w:World) (b:Nat) (R:ByteArray->Nat->Prop):Prop:= ∃m,MapL sK w b m/\ ∀k v,((k,v)∈m\/((∀p∈m,p.1≠k)/\v= .slice none 0 0))-> ∃xs:List Int,SI w v xs/\xs.length<=16000/\ ∀z,z∈xs↔ ∃j:Nat,(j:Int)=z/\R k j
theorem LookIs.below {w w':World} {b:Nat} {R:ByteArray->Nat->Prop} (h:LookIs w b R) (hb:ZT w w'):LookIs w' b R:=by
 obtain ⟨m,a,c⟩:=h;refine ⟨m,a.below hb,λk v d=> ?_⟩;obtain ⟨e,f,g⟩:=c k v d;exact ⟨e,pM f hb,g⟩
theorem LookIs.of {lo:Nat} {id:Bool} {own:Nat->Bool×ByteArray} {T:Nat} {R:ByteArray->Nat->Prop} (h:IdxM w lo b id own T R m) (r:T<=16000) (o: ∀k j,R k j->j<n) (hn:n<=400):LookIs w b R:=by
 refine ⟨m,h.mp,λk v c=> ?_⟩;rcases c with c|⟨c,rfl⟩
 .obtain ⟨d,g,p,f,q⟩:=h.rows _ c;have e:Am d=(d.map λi:Nat=>(i:Int)).map (Value.int .i64):=by simp [Am]
  rw [e] at g;refine ⟨d.map λi:Nat=>(i:Int),wN (by simpa using g) (λx l=> ?_) ZO,ZO,λz=> ?_⟩
  .obtain ⟨j,a,rfl⟩:=List.mem_map.1 l;have:=o _ _ ((f j).1 a);exact ⟨ZJ,ZJ⟩
  .rw [List.mem_map];exact ⟨λ⟨j,a,e⟩=>⟨j,e,(f j).1 a⟩,λ⟨j,e,a⟩=>⟨j,(f j).2 a,e⟩⟩
 .exact ⟨[],SL.nil _ _ _,ZM,λz=>⟨λh=>(by cases h),λ⟨j,_,a⟩=>absurd a (h.miss k c j)⟩⟩
structure SrcOK (w:World) (sb bl bh:Nat) (u v:Value) (l:List Sc) (r:List Rc):Prop where
 blk:Blk w sb 205 [u,v,.map (some bl),.map (some bh)]
 ss:SS w u l
 sr:SR w v r
 lab:LookIs w bl (TS l r r.length)
 hold:LookIs w bh (RH l r r.length)
 few:r.length<=400
theorem SrcOK.below {w w':World} {sb bl bh:Nat} {u v:Value} {l:List Sc} {r:List Rc} (h:SrcOK w sb bl bh u v l r) (hb:ZT w w'):SrcOK w' sb bl bh u v l r :=
 ⟨h.blk.next hb,rJ h.ss hb,G9 h.sr hb,h.lab.below hb,h.hold.below hb,h.few⟩
theorem PH (c:List Nat) (i:Nat):Lib.compact (((c.map λk:Nat=>(k:Int))++ [(i:Int)]).mergeSort λx y=>decide (x<=y))=dI (c++ [i]):=by
 obtain ⟨b,d⟩:=uk;refine nM b (jh _) λx=> ?_;rw [d,mem_recI];simp only [List.mem_append,List.mem_map,List.mem_singleton];constructor
 .rintro (⟨k,a,e⟩|rfl)
  .exact ⟨k,.inl a,e⟩
  .exact ⟨i,.inr rfl,rfl⟩
 .rintro ⟨k,a|rfl,e⟩
  .exact .inl ⟨k,a,e⟩
  .exact .inr e.symm
theorem EvOK.step2 (h:EvOK (λk=>b<=k/\k<w.heap.size) w v e) (hb:ZT w w'):EvOK (λk=>b<=k/\k<w'.heap.size) w' v e:=⟨h.i1,h.i2,h.i3,(h.nd.below hb).wider λk a=>⟨a.1,Nat.lt_of_lt_of_le a.2 hb.size⟩⟩
theorem EvOK.from {b':Nat} (h:EvOK (λk=>b<=k/\k<w.heap.size) w v e) (hb:b'<=b):EvOK (λk=>b'<=k/\k<w.heap.size) w v e:=⟨h.i1,h.i2,h.i3,h.nd.wider λk a=>⟨Nat.le_trans hb a.1,a.2⟩⟩
theorem Qk {sb:Nat} {cv:Value} {x:Rc} (hS:SrcOK w sb bl bh u v l r) (hx:r[i]?=some x) (hv:Val l x) (hc:SL aS F w cv (c.map λk:Nat=>(k:Int))) (c2:c.length<=3) :
  Gives prog 148 #[.pointer (some ⟨sb,0,none⟩),ZU (i:Int),cv] w λy w'=>ZT w w'/\ ∃nv,y= .agg (l8 (kz l x (dI (c++ [i]))) nv).toArray/\EvOK (λk=>w.heap.size<=k/\k<w'.heap.size) w' nv (kz l x (dI (c++ [i]))):=by
 obtain ⟨C,bj,av,_⟩:=hc.form;subst av;obtain ⟨ac,J⟩:=hv.sc;have a4:=hS.ss;have a5:=hS.sr;obtain ⟨A,bp,hA,_⟩:=a5.form;subst hA;obtain ⟨B,bk,hB,_⟩:=a4.form;subst hB;have bq:=(ZE hx).1;have br:=(ZE ac).1;obtain ⟨ad,rfl⟩:=a5.addr ZJ;obtain ⟨bd,rfl⟩:=a4.addr ZJ;have bm:=a5.len.2.2;have aw:=a4.len.2.2;have bs:=hv.comp.s1;have ax:((x.scn.toNat:Nat):Int)=x.scn:=ZJ;refine gv func148 ntmps148 ?_;refine aB ?_;refine gq rfl rfl tX ?_;rintro g6 w1 f1;refine aB ?_;refine aM iT rfl ⟨ct,trivial⟩ (λ_=>trivial) ?_;refine aB ?_;have a6:=hS.below f1.below;obtain ⟨xv,G,ay⟩:=SR.get a6.sr hx;obtain ⟨X1,bn,az,_⟩:=ay.ct.form;subst az;refine aG rfl (a6.blk.fld rfl) ?_;refine aB ?_;refine fP rfl (G) ?_;refine fw rfl BC rfl is57.q rfl rfl ?_;rintro g7 w2 f2;refine aB ?_;refine dP mixed λW3 b0=> ?_;refine iP .weak 9 ZK ZK rfl rfl b0 ?_;refine jE ?_;refine bM iT rfl ⟨ct,trivial⟩ (λ_=>trivial) ?_;refine jE ?_;have ae:=a6.below f2.below;obtain ⟨b,q1,q2,q3⟩:=SS.get ae.ss ac;rw [ax] at b;refine dF rfl (ae.blk.fld rfl) ?_;refine jE ?_;refine dF rfl (f2.blk.fld rfl) ?_;refine jE ?_;refine jY rfl (b) ?_;refine zU rfl RF ?_
 refine gJ (vX [0,1,2,6,7,24] [(0,_,_),(1,_,_),(2,_,_),(6,_,_),(7,_,_),(24,_,_)] rfl [8] rfl λvs w3 b3 b1=>gy ?_);obtain ⟨v8,rfl,h8⟩:=Sats.one b1;obtain ⟨g8,rfl,b2,b4⟩:=h8;refine eu ZK ZK rfl ?_;refine gI rfl rfl rfl b4 is74.q rfl rfl rfl ?_;rintro H af a7 bo;refine dG (bD [0,1,2,6,7,8] [(0,_,_),(1,_,_),(2,_,_),(6,_,_),(7,_,_),(8,_,_)] rfl (iB ?_));refine kG rfl (bD [0,1,2,6,7,8] [(0,_,_),(1,_,_),(2,_,_),(6,_,_),(7,_,_),(8,_,_)] rfl (aL ?_));refine aB ?_;have a8:ZT w2 H:=But.below b3 a7 b2;have d:ZT w H:=(f1.below.step f2.below).step a8;have ag:Blk H g6 68 [ZU 0,ZU 0,ZU 0,.slice none 0 0]:=(f1.blk.next f2.below).next a8;have ah:=f2.blk.next a8;have ai:(c.map λk:Nat=>(k:Int)).length<=1000000:=ZO;refine aN rfl (D4 (hc.below d) ai) ?_;rintro y5 w5 ⟨b5,b6,aj⟩;refine aB ?_;refine bI 3 _ rfl rfl rfl kC (aA rfl ct aJ) rfl rfl rfl rfl rfl ?_;rintro bt w6 f6;have b7:=b6.below f6.below;refine aT [ZU (i:Int)] rfl rfl ji rfl b7 rfl rfl (λj u K=>⟨_,rfl,f6.blk.fld K⟩) (λu hu=>by simp at hu; subst hu; rfl) ZO ZJ ?_;rintro L w7 b8 b9 ba;refine aB ?_;have s:=b5.step f6.below;have M: ∀g,y5.ownBlock=some g->H.heap.size<=g:=aj;have N:ZT H w7:=s.grown b9 s.size M
 have a: ∀g,L.ownBlock=some g->H.heap.size<=g:=λg n=>by
  rcases ba with h|h
  .exact M g (by rw [<-h]; exact n)
  .rw [h] at n; cases n; exact s.size
 obtain ⟨zs,a9⟩: ∃zs:List Int,zs=(c.map λk:Nat=>(k:Int))++ [(i:Int)]:=⟨_,rfl⟩;have bu:zs.length=c.length+1:=by rw [a9]; simp
 have ak:OwnS w7 3 1 L zs.length (zs.map (Value.int .i64)):=by
  rw [a9];simpa using b8
 refine aN rfl (Pi ak ZJ) ?_;rintro y8 w8 ⟨al,aa⟩;have m:ZT H w8:=N.grown al N.size a;have O:L.ownBlock≠some g7:=λe=>by have:=a _ e; have:=ah.lt; omega
 have t:L.ownBlock≠some g8:=λe=>by have:=a _ e; have:=af.lt; omega
 have R:=ah.next m;have D:=af.next m;have bv:=hv.comp.t1;have bw:=hv.comp.t2;have bx:=J.e1;have bz:=J.e2;obtain ⟨I,ab⟩: ∃I:List Int,I=zs.mergeSort λx y=>decide (x<=y):=⟨_,rfl⟩;have bb:I.length=zs.length:=by rw [ab,List.length_mergeSort]
 rw [<-ab,<-bb] at aa;refine aB ?_;refine dC [0,1,2,6,7,8,9] rfl ?_;refine dP mixed λW9 bc=> ?_;refine jT L.ownBlock 45 14 ZK ZK rfl rfl bc ?_;refine bP rfl rfl if74_1.q rfl ct ?_;refine gU rfl rfl io3.q rfl ct (λ_=>⟨D.fld rfl,t⟩) ?_;refine bP rfl rfl if57_3.q rfl ct ?_;refine gU rfl rfl io3.q rfl ct (λ_=>⟨R.fld rfl,O⟩) ?_;refine bP rfl rfl if74_2.q rfl ct ?_;refine gU rfl rfl io3.q rfl ct (λ_=>⟨D.fld rfl,t⟩) ?_;refine TZ rfl rfl rfl ct rfl ct (λ_=>by (try dsimp only); omega) ?_;refine bP rfl rfl if57_3.q rfl ct ?_;refine gU rfl rfl io3.q rfl ct (λ_=>⟨R.fld rfl,O⟩) ?_;refine bP rfl rfl if74_2.q rfl ct ?_;refine gU rfl rfl io3.q rfl ct (λ_=>⟨D.fld rfl,t⟩) ?_;refine T7 rfl rfl rfl ct rfl ct (λ_=>by (try dsimp only); omega) ?_;refine fO rfl rfl rfl ct ?_;refine GZ (cap:= []) (λy W=>OwnS W 3 1 y (Lib.compact I).length ((Lib.compact I).map (Value.int .i64))/\y.ownBlock=L.ownBlock) (λy W W' hb h=>⟨h.1.below hb,h.2⟩) rfl rfl rfl Vz rfl ct (cO rfl ct dR) (λ_ w' c0 be=>(Gq (aa.kept λg n=>be g n (aa.lt n)) ZJ).mono λy c1 ⟨a1,a2,a3⟩=>⟨a1,a2,a3⟩) ?_
 refine uE (qh [0,1,2,6,7,8,9,33,38,43] [(0,_,_),(1,_,_),(2,_,_),(6,_,_),(7,_,_),(8,_,_),(9,_,_),(33,_,_),(38,_,_),(43,_,_)] rfl [45] rfl λvs w9 am bf=>gy ?_);obtain ⟨an,rfl,p⟩:=Sats.one bf;obtain ⟨p,S⟩:OwnS w9 3 1 an (Lib.compact I).length ((Lib.compact I).map (Value.int .i64))/\an.ownBlock=L.ownBlock:=p;have U:Lib.compact I=dI (c++ [i]):=by rw [ab,a9]; exact PH c i
 rw [U] at p;obtain ⟨N1,E,bg,_⟩:=p.form;subst bg;have Y:L.ownBlock≠some g6:=λe=>by have:=a _ e; have:=ag.lt; omega
 have ao:=GB.blk am (ag.next m) Y;refine eu ZK ZK rfl ?_;refine jr [0,1,2,3] [.tmp 33,.tmp 38,.tmp 43,.tmp 45] [ZU (qm l x).off,ZU (x.time-(qm l x).err),ZU (x.time+(qm l x).err),.slice N1 (dI (c++ [i])).length E] rfl rfl rfl (aA rfl ct (aA rfl ct (aA rfl ct (aA rfl ct aJ)))) ZK ?_;refine dG (bD [0,1,2,6,7,8,9,46] [(0,_,_),(1,_,_),(2,_,_),(6,_,_),(7,_,_),(8,_,_),(9,_,_),(46,_,_)] rfl (iB ?_));refine eu ZK ZK rfl ?_;refine gI rfl rfl rfl ao is68.q rfl rfl rfl ?_;rintro ap aq o bi;refine dG (bD [0,1,2,6,7,8,9] [(0,_,_),(1,_,_),(2,_,_),(6,_,_),(7,_,_),(8,_,_),(9,_,_)] rfl (iB ?_));refine kG rfl (bD [0,1,2,6,7,8,9] [(0,_,_),(1,_,_),(2,_,_),(6,_,_),(7,_,_),(8,_,_),(9,_,_)] rfl (aL ?_));refine pJ ?_;have Z:ZT w w9:=(d.step m).grown am (d.step m).size (λq hq=>by have:=a q hq; have:=d.size; omega);have ar:ZT w ap:=Z.grown o Z.size (λq hq=>by cases hq; have:=f1.at_; omega);have au: ∀g,(Value.slice N1 (dI (c++ [i])).length E).ownBlock=some g->g≠g6:=λg n e=>Y (by rw [<-S,n,e])
 refine Ca results148 underlying68 (by exact is68.q) rfl (aq) (⟨ar,_,rfl,q2,⟨by show (-9223372036854775808:Int)<=x.time-_; omega,by show x.time-_<=(9223372036854775807:Int); omega⟩,⟨by show (-9223372036854775808:Int)<=x.time+_; omega,by show x.time+_<=(9223372036854775807:Int); omega⟩,?_⟩);have hI:=nE hc;have a0:OwnS ap 3 1 (.slice N1 (dI (c++ [i])).length E) (dI (c++ [i])).length ((dI (c++ [i])).map (Value.int .i64)):=p.kept λg n=>o.block g (p.lt n) (λe=>au g n (by cases e; rfl));refine dO a0 (λz hz=> ?_) (λg n=>⟨by have:=a g (by rw [<-S]; exact n); have:=d.size; omega,a0.lt n⟩) (by have:=Lib.compact_length_le I; rw [U] at this; show (dI (c++ [i])).length<=_; omega);obtain ⟨j,K,rfl⟩:=mem_recI.1 hz;rcases ZH K with K|K
 .exact hI _ (List.mem_map.2 ⟨j,K,rfl⟩)
 .rw [List.mem_singleton] at K;subst K;have:=hS.few;exact ⟨ZJ,ZJ⟩
end
section
open Go.Sort
theorem lC (h:But b w w') (hm:MapL sK w b m):Kept F w w':=λp v _ a=>by
 by_cases c:p.block=b
 .obtain ⟨⟨f,g,d,_⟩,_⟩:=hm;rw [<-c] at d;simp [World.cell?,d] at a
 .exact (World.cell?_of_block (h.block _ (block_lt_of_cell a) (λe=>c (by cases e; rfl)))).trans a
theorem LookIs.but {w w':World} {b fb:Nat} {R:ByteArray->Nat->Prop} {m:List (ByteArray×Value)} (h:LookIs w b R) (hb:But fb w w') (hm:MapL sK w fb m) (a:b≠fb):LookIs w' b R:=by
 obtain ⟨c,d,e⟩:=h;refine ⟨c,d.but hb a,λk v f=> ?_⟩;obtain ⟨g,i,j⟩:=e k v f;exact ⟨g,(i.mono (lC hb hm)).wider λk l=>Nat.lt_of_lt_of_le l hb.size,j⟩
theorem SrcOK.but {w w':World} {sb bl bh fb:Nat} {u v:Value} {l:List Sc} {r:List Rc} {m:List (ByteArray×Value)} (h:SrcOK w sb bl bh u v l r) (hb:But fb w w') (hm:MapL sK w fb m) (a:bl≠fb/\bh≠fb):SrcOK w' sb bl bh u v l r:=by
 have c:sb≠fb:=λe=>by
  obtain ⟨⟨f,g,d,_⟩,_⟩:=hm;have:=h.blk;unfold Blk at this;rw [e,d] at this;cases this
 exact ⟨hb.blk h.blk c,(h.ss.mono (lC hb hm)).wider λk b=>Nat.lt_of_lt_of_le b hb.size,(h.sr.mono (lC hb hm)).wider λk b=>Nat.lt_of_lt_of_le b hb.size,h.lab.but hb hm a.1,h.hold.but hb hm a.2,h.few⟩
def FoundIs (base:Nat) (w:World) (fb:Nat) (S:Ev->Prop):Prop:= ∃m,MapL sK w fb m/\(∀p∈m,∃e nv,p=(ja e,Value.agg (l8 e nv).toArray)/\EvOK (λk=>base<=k/\k<w.heap.size) w nv e/\S e)/\ ∀e,S e-> ∃v,(ja e,v)∈m
theorem FoundIs.congr {S':Ev->Prop} (h:FoundIs base w fb S) (a: ∀e,S e↔S' e):FoundIs base w fb S':=by
 have:=funext λe=>propext (a e);rw [<-this]; exact h
theorem FoundIs.below {base:Nat} {w w':World} {fb:Nat} {S:Ev->Prop} (h:FoundIs base w fb S) (hb:ZT w w'):FoundIs base w' fb S:=by
 obtain ⟨m,a,b,c⟩:=h;refine ⟨m,a.below hb,λp d=> ?_,c⟩;obtain ⟨e,f,g,i,j⟩:=b p d;exact ⟨e,f,g,i.step2 hb,j⟩
theorem FoundIs.put {nv:Value} (hm:MapL sK w fb m) (s: ∀p∈m,∃e nv,p=(ja e,Value.agg (l8 e nv).toArray)/\EvOK (λk=>base<=k/\k<w.heap.size) w nv e/\S e) (t: ∀e,S e-> ∃v,(ja e,v)∈m)
  (he:EvOK (λk=>base<=k/\k<w.heap.size) w nv e) (hb:But fb w w') (g:MapL sK w' fb (jK m (ja e) (.agg (l8 e nv).toArray))):FoundIs base w' fb λf=>S f\/f=e:=by
 have b: ∀ {f:Ev} {nv:Value},EvOK (λk=>base<=k/\k<w.heap.size) w nv f->EvOK (λk=>base<=k/\k<w'.heap.size) w' nv f:=λh=>⟨h.i1,h.i2,h.i3,(h.nd.mono (lC hb hm)).wider λk i=>⟨i.1,Nat.lt_of_lt_of_le i.2 hb.size⟩⟩;refine ⟨_,g,λp c=> ?_,λf j=> ?_⟩
 .rcases mem_lput.1 c with rfl|⟨c,_⟩
  .exact ⟨e,nv,rfl,b he,.inr rfl⟩
  .obtain ⟨f,d,l,n,o⟩:=s p c;exact ⟨f,d,l,b n,.inl o⟩
 .by_cases a:f=e
  .subst a; exact ⟨_,mem_lput.2 (.inl rfl)⟩
  .obtain ⟨v,q⟩:=t f (j.resolve_right a);exact ⟨v,mem_lput.2 (.inr ⟨q,λr=>a (tY r)⟩)⟩
structure FolCtx (w:World) (sb bl bh:Nat) (u v:Value) (l:List Sc) (r:List Rc) (gz gs gf gw fb n:Nat):Prop where
 src:SrcOK w sb bl bh u v l r
 bz:Blk w gz 3 [ZU (n:Int)]
 bs:Blk w gs 126 [.pointer (some ⟨sb,0,none⟩)]
 bf:Blk w gf 206 [.map (some fb)]
 bw:Blk w gw 207 [.func (.func 146) #[] [.pointer (some ⟨gz,0,none⟩),.pointer (some ⟨gs,0,none⟩),.pointer (some ⟨gf,0,none⟩),.pointer (some ⟨gw,0,none⟩)].toArray]
 tabs:TabI w
 ne:bl≠fb/\bh≠fb
theorem FolCtx.below {w w':World} {sb bl bh:Nat} {u v:Value} {l:List Sc} {r:List Rc} {gz gs gf gw fb n:Nat} (h:FolCtx w sb bl bh u v l r gz gs gf gw fb n) (hb:ZT w w'):FolCtx w' sb bl bh u v l r gz gs gf gw fb n :=
 ⟨h.src.below hb,h.bz.next hb,h.bs.next hb,h.bf.next hb,h.bw.next hb,h.tabs.below hb,h.ne⟩
theorem Ba {t:TypeId} {cs:List Value} (a:Blk w g t cs) (hm:MapL sK w b m):g≠b:=λe=>by
 obtain ⟨⟨d,f,c,_⟩,_⟩:=hm;unfold Blk at a;rw [e,c] at a;cases a
theorem TabI.but (h:TabI w) (hb:But fb w w') (hm:MapL sK w fb m):TabI w':=by
 refine ⟨?_⟩;have a:=h.pow;unfold Lib.TabIs World.var? at a ⊢
 cases f:prog.globalNamed "internal/strconv.uint64pow10" with
 | none=>rw [f] at a; cases a
 | some g =>
  rw [f] at a;simp only [Option.bind_some] at a ⊢;obtain ⟨⟨j,k,i,_⟩,_⟩:=hm;have b:g≠fb:=λe=>by
   rw [e,i] at a;simp at a
  rcases ZI g w.heap.size with c|d
  .rw [hb.block g c (λe=>b (by cases e; rfl))]; exact a
  .rw [Array.getElem?_eq_none d] at a; cases a
theorem FolCtx.but {w w':World} {sb bl bh:Nat} {u v:Value} {l:List Sc} {r:List Rc} {gz gs gf gw fb n:Nat} {m:List (ByteArray×Value)} (h:FolCtx w sb bl bh u v l r gz gs gf gw fb n) (hb:But fb w w') (hm:MapL sK w fb m):FolCtx w' sb bl bh u v l r gz gs gf gw fb n :=
 ⟨h.src.but hb hm h.ne,hb.blk h.bz (Ba h.bz hm),hb.blk h.bs (Ba h.bs hm),hb.blk h.bf (Ba h.bf hm),hb.blk h.bw (Ba h.bw hm),h.tabs.but hb hm,h.ne⟩
end
section
open Go.Sort
attribute [local irreducible] TW CW KW DW
def VI (gz gs gf gw:Nat):List Value:= [.pointer (some ⟨gz,0,none⟩),.pointer (some ⟨gs,0,none⟩),.pointer (some ⟨gf,0,none⟩),.pointer (some ⟨gw,0,none⟩)]
theorem JF (n:Nat):min (n:Int) 3=((min n 3:Nat):Int):=ZJ
theorem nat_mem:(i:Int)∈c.map (λk:Nat=>(k:Int))↔i∈c:=by
  rw [List.mem_map]
  exact ⟨fun ⟨k, hk, e⟩ => by have : k = i := by omega
                              exact this ▸ hk,λh=>⟨i,h,rfl⟩⟩

theorem Na {sb gz gs gf gw:Nat} (ce:1<=n) (cf:n<=4): ∀(d:Nat) (w:World) (c:List Nat) (a:ByteArray) (cv:Value) (F:Nat->Prop) (S:Ev->Prop),
  min n 3-c.length=d->c.length<=min n 3->Chn l r lab c a->SL aS F w cv (c.map λk:Nat=>(k:Int))->FolCtx w sb bl bh u v l r gz gs gf gw fb n->base<=w.heap.size->FoundIs base w fb S ->
  Gives prog 146 ([.string a,cv]++VI gz gs gf gw).toArray w λ_ w'=>But fb w w'/\FoundIs base w' fb λe=>S e\/(Ext l r lab c e/\e.needs.length=n):=by
 intro d
 induction d using Nat.strongRecOn with
 | ind d ih =>
 intro w c a cv F S hd ax O hc hX bd hf;obtain ⟨C,R,be,_⟩:=hc.form;subst be;have bg:c.length<=3:=ZJ;have ay:=hc;obtain ⟨mm,aj⟩: ∃mm:Nat,mm=(c.map λk:Nat=>(k:Int)).length:=⟨_,rfl⟩;have c6:mm=c.length:=by rw [aj]; simp
 rw [<-aj] at ay ⊢;obtain ⟨m0,aa⟩: ∃m,MapL sK w fb m:=let ⟨m,h,_⟩:=hf; ⟨m,h⟩;refine gv func146 ntmps146 ?_;refine aB ?_;refine aG rfl (hX.bz.cell 0) ?_;refine aB ?_;have a0: ∀ {W:World},But fb w W->SL aS F W (.slice C mm R) (c.map λk:Nat=>(k:Int)):=λhb=>ay.mono (lC hb aa);refine Bz [(0,none,.string a),(1,none,.slice C mm R),(2,none,.pointer (some ⟨gz,0,none⟩)),(3,none,.pointer (some ⟨gs,0,none⟩)),(4,none,.pointer (some ⟨gf,0,none⟩)),(5,none,.pointer (some ⟨gw,0,none⟩))]
  (λW=>But fb w W/\FoundIs base W fb λe=>S e\/(n<=c.length+1/\ ∃i x,r[i]?=some x/\Val l x/\x.label=a/\(i∈c↔c.length=n)/\e=kz l x (dI (c++ [i])))) (λhj=> ?_) (λW1 hJ=> ?_)
 .skip
  refine aI rfl (λc7=> ?_) (λc8=> ?_)
  .have bi:n<=c.length+1:=ZJ;refine aB ?_;refine aG rfl (hX.bs.cell 0) ?_;refine aM iT rfl ⟨ct,trivial⟩ (λ_=>trivial) ?_;refine aB ?_;refine aG rfl (hX.src.blk.fld rfl) ?_;refine aB ?_;obtain ⟨mL,bj,H⟩:=hX.src.lab;refine ik sK a rfl rfl underlying203 KQ rfl rfl bj ?_;rintro lv al;obtain ⟨t,a1,bk,I⟩:=H a lv al;obtain ⟨L1,E,am,_⟩:=a1.form;subst am;refine aB ?_;refine bT (λk:Nat=> [(0,none,.string a),(1,none,.slice C mm R),(2,none,.pointer (some ⟨gz,0,none⟩)),(3,none,.pointer (some ⟨gs,0,none⟩)),(4,none,.pointer (some ⟨gf,0,none⟩)),(5,none,.pointer (some ⟨gw,0,none⟩)),(23,none,.slice L1 t.length E),(24,none,ZU (t.length:Int)),(25,none,ZU (k:Int))])
    (λk W=>k<=t.length/\But fb w W/\FoundIs base W fb λe=>S e\/ ∃z∈t.take k,∃(i:Nat) (x:Rc),(i:Int)=z/\r[i]?=some x/\(i∈c↔c.length=n)/\e=kz l x (dI (c++ [i]))) (λk=>t.length-k) 0 [0,1,2,3,4,5,23,24,25] ⟨ZB,But.of_below ZA,hf.congr λe=>⟨.inl,λh=>h.resolve_right λ⟨z,J,_⟩=>by simp at J⟩⟩ rfl ?_
   rintro k W ⟨hk,g,hF⟩;have G:SL aS (λk=>k<w.heap.size) W (.slice L1 t.length E) t:=a1.mono (lC g aa);have ab:=hX.but g aa;have a2:=a0 g;refine aB ?_;refine aI rfl (λaz=> ?_) (λb0=> ?_)
   .obtain ⟨z,J,an⟩:=eP (l:=t) (k:=k) ZJ;obtain ⟨Ld,rfl⟩:=G.addr ZJ;obtain ⟨j,a3,a4,x,hx,Y,c1⟩:=(I z).1 an;subst a3;have bm:=Fol.size O j;refine aB ?_;refine aG rfl (G.getI J) ?_;refine aB ?_;refine gV mixed ZK ?_;refine jE ?_;refine xW (.ex (.bool (decide ((j:Int)∈c.map λk:Nat=>(k:Int))))) trivial rfl (λ_ w' Z=>(xz (a2.below Z)).mono λu b1 ⟨s,b⟩=>⟨s,b⟩) ?_;refine jE ?_;refine dF rfl (ab.bz.cell 0) ?_;refine jE ?_;refine qG [0,1,2,3,4,5,9,23,24,25,36] rfl λw2 b2=> ?_;refine aL ?_;have B:=ab.below b2;have a5:=hF.below b2;have p:=g.step b2;refine aK rfl (λU=> ?_) (λac=> ?_)
    .have K:j∈c↔c.length=n:=by
      have s:decide ((j:Int)∈c.map λk:Nat=>(k:Int))=decide ((mm:Int)=(n:Int)):=by simpa using U
      have b:=decide_eq_decide.1 s;rw [nat_mem] at b;rw [b];omega
     refine aB ?_;refine aG rfl (B.bs.cell 0) ?_;refine aB ?_;refine aN rfl (Qk B.src hx Y (a2.below b2) bg) ?_;rintro y3 w3 ⟨a6,nv,rfl,b3⟩;obtain ⟨N1,c2,bn,_⟩:=b3.nd.form;subst bn;refine fw rfl tX rfl is68.q rfl rfl ?_;rintro c9 w4 f4;refine aB ?_;refine dC [0,1,2,3,4,5,9,10,23,24,25] rfl ?_;refine dP mixed λW5 ao=> ?_;refine iP .weak 4 ZK ZK rfl rfl ao ?_;have ae:=(B.below a6).below f4.below;have c3:=p.size;have ak:=(b3.from (b':=base) ZJ).step2 f4.below;have ap:(kz l x (dI (c++ [j]))).needs.length<=1000:=by
      show (dI (c++ [j])).length<=1000;rw [bm]; split<;>omega
     refine dF rfl (ae.bf.cell 0) ?_;refine jY rfl (λ_ _ Y=>f4.blk.fld Y) ?_;refine xW (.ex (.string (ja (kz l x (dI (c++ [j])))))) trivial rfl (λ_ w' Z=>(RL (ak.below Z) ap (ae.tabs.below Z)).mono λu b1 ⟨s,b⟩=>⟨s,b⟩) ?_;refine jY rfl (λ_ _ Y=>f4.blk.fld Y) ?_;refine gJ (Bv [0,1,2,3,4,5,9,10,23,24,25,41,43,44] [(0,_,_),(1,_,_),(2,_,_),(3,_,_),(4,_,_),(5,_,_),(9,_,_),(10,_,_),(23,_,_),(24,_,_),(25,_,_),(41,_,_),(43,_,_),(44,_,_)] rfl (λw5 b5=>gy ?_));refine eu ZK ZK rfl ?_;have aq:=((a5.below a6).below f4.below).below b5;obtain ⟨m5,b4,q2,q3⟩:=aq;refine dM sK (ja (kz l x (dI (c++ [j])))) rfl underlying206 rfl rfl rfl b4 ?_;rintro w6 ca b6 bo;refine dG (bD [0,1,2,3,4,5,9,10,23,24,25] [(0,_,_),(1,_,_),(2,_,_),(3,_,_),(4,_,_),(5,_,_),(9,_,_),(10,_,_),(23,_,_),(24,_,_),(25,_,_)] rfl (iB ?_));refine kG rfl (bD [0,1,2,3,4,5,9,10,23,24,25] [(0,_,_),(1,_,_),(2,_,_),(3,_,_),(4,_,_),(5,_,_),(9,_,_),(10,_,_),(23,_,_),(24,_,_),(25,_,_)] rfl (fB (aL ?_)));refine aB ?_;have b7:=FoundIs.put b4 q2 q3 (ak.step2 b5) b6 bo;refine bH (k+1) [0,1,2,3,4,5,23,24,25] rfl ⟨ZJ,(((p.step a6).step f4.below).step b5).trans b6,b7.congr λe=> ?_⟩ ZJ;rw [ZG,J]
     simp only [Option.toList_some,List.mem_append,List.mem_singleton];constructor
     .rintro ((h|⟨z,o,h⟩)|h)
      .exact .inl h
      .exact .inr ⟨z,.inl o,h⟩
      .exact .inr ⟨_,.inr rfl,j,x,rfl,hx,K,h⟩
     .rintro (h|⟨z,o|rfl,i,y,s,b,D,L⟩)
      .exact .inl (.inl h)
      .exact .inl (.inr ⟨z,o,i,y,s,b,D,L⟩)
      .have:i=j:=ZJ;subst this;rw [hx] at b;cases b;exact .inr L
    .have K: ¬(j∈c↔c.length=n):=λh=>by
      have s: ¬decide ((j:Int)∈c.map λk:Nat=>(k:Int))=decide ((mm:Int)=(n:Int)):=by simpa using ac
      apply s;rw [decide_eq_decide,nat_mem,h];omega
     refine aB ?_;refine bH (k+1) [0,1,2,3,4,5,23,24,25] rfl ⟨ZJ,p,a5.congr λe=> ?_⟩ ZJ;rw [ZG,J];simp only [Option.toList_some,List.mem_append,List.mem_singleton];constructor
     .rintro (h|⟨z,o,h⟩)
      .exact .inl h
      .exact .inr ⟨z,.inl o,h⟩
     .rintro (h|⟨z,o|rfl,i,y,s,b,D,L⟩)
      .exact .inl h
      .exact .inr ⟨z,o,i,y,s,b,D,L⟩
      .have:i=j:=ZJ;subst this;exact absurd D K
   .refine qj (iO (iO (kV (aL ?_))));have ar:k=t.length:=ZJ;subst ar;rw [List.take_length] at hF;exact Bw [0,1,2,3,4,5] _ rfl (hj _ ⟨g,hF.congr λe=>by
     constructor
     .rintro (h|⟨z,J,i,x,s,b,D,L⟩)
      .exact .inl h
      .obtain ⟨j,a3,a4,y,hy,Y,a7⟩:=(I z).1 J;have:i=j:=ZJ;subst this;rw [b] at hy;cases hy;exact .inr ⟨bi,i,x,b,Y,a7,D,L⟩
     .rintro (h|⟨_,i,x,b,Y,a7,D,L⟩)
      .exact .inl h
      .exact .inr ⟨(i:Int),(I _).2 ⟨i,rfl,(ZE b).1,x,b,Y,a7⟩,i,x,rfl,b,D,L⟩⟩)
  .refine oh (aL ?_);exact Bw [0,1,2,3,4,5] _ rfl (hj _ ⟨But.of_below ZA,hf.congr λe=>⟨.inl,λh=>h.resolve_right λh=>ZJ⟩⟩)
 .obtain ⟨M,au⟩:=hJ;have a8:=hX.but M aa;refine aB ?_;refine aG rfl (a8.bz.cell 0) ?_;refine aM xK rfl ⟨ct,ct,trivial⟩ (λ_=>trivial) ?_;refine aB ?_;refine dC [0,1,2,3,4,5,50] rfl ?_;have c4:min (n:Int) 3=((min n 3:Nat):Int):=JF n;refine aI rfl (λc5=> ?_) (λcb=> ?_)
  .have bp:c.length=min n 3:=ZJ;refine aB ?_;refine Cb results146 ⟨M,au.congr λe=> ?_⟩;rw [ext_size O ax e];exact ⟨λh=>h.imp id .inl,λh=>h.imp id λh=>h.resolve_right λh=>h.1 bp⟩
  .have bq:c.length≠min n 3:=ZJ;refine aB ?_;refine aG rfl (a8.bs.cell 0) ?_;refine aM iT rfl ⟨ct,trivial⟩ (λ_=>trivial) ?_;refine aB ?_;refine aG rfl (a8.src.blk.fld rfl) ?_;refine aB ?_;obtain ⟨mH,br,H⟩:=a8.src.hold;refine ik sK a rfl rfl underlying203 KQ rfl rfl br ?_;rintro lv al;obtain ⟨t,a1,bk,I⟩:=H a lv al;obtain ⟨L1,E,am,_⟩:=a1.form;subst am;obtain ⟨m1,b8⟩: ∃m,MapL sK W1 fb m:=let ⟨m,h,_⟩:=au; ⟨m,h⟩;obtain ⟨S1,b9⟩: ∃S1:Ev->Prop,S1=λe=>S e\/(n<=c.length+1/\ ∃i x,r[i]?=some x/\Val l x/\x.label=a/\(i∈c↔c.length=n)/\e=kz l x (dI (c++ [i]))):=⟨_,rfl⟩;have ba:FoundIs base W1 fb S1:=b9 ▸ au;refine aB ?_;refine bT (λk:Nat=> [(0,none,.string a),(1,none,.slice C mm R),(2,none,.pointer (some ⟨gz,0,none⟩)),(3,none,.pointer (some ⟨gs,0,none⟩)),(4,none,.pointer (some ⟨gf,0,none⟩)),(5,none,.pointer (some ⟨gw,0,none⟩)),(56,none,.slice L1 t.length E),(57,none,ZU (t.length:Int)),(58,none,ZU (k:Int))])
    (λk W=>k<=t.length/\But fb W1 W/\FoundIs base W fb λe=>S1 e\/ ∃z∈t.take k,∃(i:Nat),(i:Int)=z/\i ∉ c/\Ext l r lab (c++ [i]) e/\e.needs.length=n) (λk=>t.length-k) 0 [0,1,2,3,4,5,56,57,58] ⟨ZB,But.of_below ZA,ba.congr λe=>⟨.inl,λh=>h.resolve_right λ⟨z,J,_⟩=>by simp at J⟩⟩ rfl ?_
   rintro k W ⟨hk,g,hF⟩;have N:=M.trans g;have G:SL aS (λk=>k<W1.heap.size) W (.slice L1 t.length E) t:=a1.mono (lC g b8);have ab:=a8.but g b8;have a2:=a0 N;refine aB ?_;refine aI rfl (λaz=> ?_) (λb0=> ?_)
   .obtain ⟨z,J,an⟩:=eP (l:=t) (k:=k) ZJ;obtain ⟨Ld,rfl⟩:=G.addr ZJ;obtain ⟨j,a3,a4,x,hx,Y,bt⟩:=(I z).1 an;subst a3;refine aB ?_;refine aG rfl (G.getI J) ?_;refine aB ?_;refine aN rfl (xz a2) ?_;rintro y2 w2 ⟨a9,rfl⟩;refine aB ?_;refine dC [0,1,2,3,4,5,12,56,57,58,65] rfl ?_;have B:=ab.below a9;have a5:=hF.below a9;have p:=g.step a9;refine aK rfl (λU=> ?_) (λac=> ?_)
    .have af:j ∉ c:=λh=>by
      have:=nat_mem.2 h;rw [decide_eq_true this] at U;simp at U
     have ag:=B.src.sr;obtain ⟨A,cc,hA,_⟩:=ag.form;subst hA;obtain ⟨ad,hA⟩:=ag.addr ZJ;subst hA;obtain ⟨xv,ah,cd⟩:=SR.get ag hx;have bu:=ag.len.2.2;refine dP mixed λW3 a6=> ?_;refine iP .own 14 ZK ZK rfl rfl a6 ?_;refine dF rfl (B.bw.cell 0) ?_;refine dF rfl (B.bs.cell 0) ?_;refine bM iT rfl ⟨ct,trivial⟩ (λ_=>trivial) ?_;refine jE ?_;refine dF rfl (B.src.blk.fld rfl) ?_;refine jE ?_;refine dF rfl (ah 4 _ rfl) ?_;refine jE ?_;refine GX 3 1 c.length ((c.map λk:Nat=>(k:Int)).map (Value.int .i64)) rfl rfl Xi rfl ct (cO rfl ct dR) (λ_ w' Z=>(D4 ((a2.below a9).below Z) ZO).mono λy b1 ⟨s,b,D⟩=>⟨s,by simpa using b,D⟩) ?_;refine jE ?_;refine iN 3 _ rfl rfl rfl kC (cO rfl ct dR) rfl rfl rfl rfl rfl ?_;refine nY [ZU (j:Int)] rfl rfl ji rfl ZK rfl ct (λu hu=>by simp at hu; subst hu; rfl) ZJ ZJ rfl ?_;refine gJ (vX [0,1,2,3,4,5,12,56,57,58,66,74] [(0,_,_),(1,_,_),(2,_,_),(3,_,_),(4,_,_),(5,_,_),(12,_,_),(56,_,_),(57,_,_),(58,_,_),(66,_,_),(74,_,_)] rfl [79] rfl λvs w4 ai bv=>gy ?_);obtain ⟨bb,rfl,av⟩:=Sats.one bv;obtain ⟨av,_⟩:=av;have bx:OwnS w4 3 1 bb ((c++ [j]).map λk:Nat=>(k:Int)).length (((c++ [j]).map λk:Nat=>(k:Int)).map (Value.int .i64)):=by simpa using av
     have ae:=B.below ai;have c0:=a5.below ai;have bc:=wN bx (λq hq=>by
      obtain ⟨i,hi,rfl⟩:=List.mem_map.1 hq;rcases ZH hi with hi|hi
      .exact nE hc _ (List.mem_map.2 ⟨i,hi,rfl⟩)
      .rw [List.mem_singleton] at hi;subst hi;have:=hX.src.few;exact ⟨ZJ,ZJ⟩) ZO
     have aw:Chn l r lab (c++ [j]) x.label:=O.snoc hx Y bt af ZJ;refine eu ZK ZK rfl ?_;refine fE rfl rfl Rt rfl (aA rfl ct (aA rfl ct aJ)) (ih (min n 3-(c++ [j]).length) ZO w4 (c++ [j]) x.label bb _ _ rfl ZO aw bc ae (by have:=(N.step a9).size; have:=ai.size; omega) c0) ?_;rintro y5 w5 ⟨ao,aq⟩;refine dG (bD [0,1,2,3,4,5,12,56,57,58] [(0,_,_),(1,_,_),(2,_,_),(3,_,_),(4,_,_),(5,_,_),(12,_,_),(56,_,_),(57,_,_),(58,_,_)] rfl (iB ?_));refine kG rfl (bD [0,1,2,3,4,5,12,56,57,58] [(0,_,_),(1,_,_),(2,_,_),(3,_,_),(4,_,_),(5,_,_),(12,_,_),(56,_,_),(57,_,_),(58,_,_)] rfl (fB (aL ?_)));refine aB ?_;refine bH (k+1) [0,1,2,3,4,5,56,57,58] rfl ⟨ZJ,(p.step ai).trans ao,aq.congr λe=> ?_⟩ ZJ;rw [ZG,J];simp only [Option.toList_some,List.mem_append,List.mem_singleton];constructor
     .rintro ((h|⟨z,o,h⟩)|⟨s,b⟩)
      .exact .inl h
      .exact .inr ⟨z,.inl o,h⟩
      .exact .inr ⟨_,.inr rfl,j,rfl,af,s,b⟩
     .rintro (h|⟨z,o|rfl,i,s,b,D,L⟩)
      .exact .inl (.inl h)
      .exact .inl (.inr ⟨z,o,i,s,b,D,L⟩)
      .have:i=j:=ZJ;subst this;exact .inr ⟨D,L⟩
    .have af:j∈c:=by
      apply Classical.byContradiction;intro h;have b: ¬(j:Int)∈c.map λk:Nat=>(k:Int):=λh'=>h (nat_mem.1 h');rw [decide_eq_false b] at ac;simp at ac
     refine aB ?_;refine bH (k+1) [0,1,2,3,4,5,56,57,58] rfl ⟨ZJ,p,a5.congr λe=> ?_⟩ ZJ;rw [ZG,J];simp only [Option.toList_some,List.mem_append,List.mem_singleton];constructor
     .rintro (h|⟨z,o,h⟩)
      .exact .inl h
      .exact .inr ⟨z,.inl o,h⟩
     .rintro (h|⟨z,o|rfl,i,s,b,D⟩)
      .exact .inl h
      .exact .inr ⟨z,o,i,s,b,D⟩
      .have:i=j:=ZJ;subst this;exact absurd af b
   .refine aB ?_;have ar:k=t.length:=ZJ;subst ar;rw [List.take_length] at hF;refine oU results146 ⟨N,hF.congr λe=> ?_⟩;rw [ext_size O ax e,b9];constructor
    .rintro ((h|h)|⟨z,J,i,s,b,D,L⟩)
     .exact .inl h
     .exact .inr (.inl h)
     .obtain ⟨j,a3,a4,y,hy,Y,a7⟩:=(I z).1 J;have:i=j:=ZJ;subst this;exact .inr (.inr ⟨bq,i,y,hy,Y,a7,b,D,L⟩)
    .rintro (h|h|⟨_,m,x,s,b,D,L,h5,h6⟩)
     .exact .inl (.inl h)
     .exact .inl (.inr h)
     .exact .inr ⟨(m:Int),(I _).2 ⟨m,rfl,(ZE s).1,x,s,b,D⟩,m,rfl,L,h5,h6⟩
end
section
open Go.Sort
attribute [local irreducible] TW CW KW DW
theorem yH {D:Nat} {w0:World} {o:Obj} (h:Below n w0 w) (b:n<=D):Below n w0 (w.putObj D o) :=
 ⟨h.os,h.tape,h.output,by simpa using h.size,λi a=>(World.putObj_heap_other ZJ).trans (h.block i a)⟩
abbrev KV:=ByteArray×Value
def MJ (m pre:List KV) (x:KV):Prop:=((pre++ [x]).map (·.1)).Nodup/\ ∀y∈pre++ [x],y∈m
def Re (m xs:List KV):Prop:=(xs.map (·.1)).Nodup/\ ∀y,y∈xs↔y∈m
def xw (v:Value):Prop:= ∃e A n c,v= .agg (l8 e (.slice A n c)).toArray
theorem BI {bm:Nat} {m:List KV} (hg:Blk w g 206 [.map (some bm)]) (hm:MapL sK w bm m) (ab: ∀p∈m,xw p.2) :
  IterOK prog 245 [.pointer (some ⟨g,0,none⟩)] (λx:KV=> [x.2]) (MJ m) (Re m) (λk=>k=g\/k=bm) w:=by
 intro yl J Jx W M t ac ad hM u hJ ae A h0;have a1:Blk W g 206 [.map (some bm)]:=(t g (.inl rfl) hg.lt).trans hg;have I:MapL sK W bm m:=hm.kept (t bm (.inr rfl) hm.lt);refine gv func245 ntmps245 ?_;refine aB ?_;refine aG rfl (a1.cell 0) ?_;refine mY sK rfl rfl underlying206 rfl I ?_;rintro H w1 af ag a2 a3;refine aB ?_;refine bT (λx:List KV×(Nat->Prop)×Option KV=> [(0,none,.func (.yield yl) #[] #[]),(6,none,.pointer (some ⟨H,0,none⟩))])
  (λx W'=>J x.1 x.2.1 W'/\WalkM sK W' H bm m (x.1.map (·.1)) x.2.2/\W.heap.size<W'.heap.size/\(∀k,x.2.1 k->k<W'.heap.size)/\ ¬x.2.1 H/\ ¬x.2.1 bm/\(x.1.map (·.1)).Nodup/\ ∀y∈x.1,y∈m)
  (λx=>m.length-x.1.length) ([],M,none) [0,6]
  ⟨hJ _ _ _ _ h0 (.of_below a2),a3,by show W.heap.size<w1.heap.size; omega,λk hk=>by have:=u k hk; show k<w1.heap.size; omega,λh=>by have:=u _ h; omega,(hM bm (.inr rfl)).1,List.nodup_nil,λy A=>by cases A⟩ rfl ?_
 rintro ⟨c,M1,ah⟩ W1 ⟨hj,z,K,L,j,n,B,i⟩;dsimp only at hj z L j n B i K;refine aB ?_;refine pE sK rfl rfl rfl z (λN=> ?_) (λk v w2 O R ai a4 C s=> ?_)
 .skip
  refine aB ?_;refine aK rfl (λh1=> ?_) (λh2=> ?_)
  .exact absurd h1 ZM
  .refine aB ?_;refine oU results245 (.inl ⟨c,M1,⟨B,λy=>⟨λh=>i y h,λh=> ?_⟩⟩,hj⟩);have hk:=N y h;rw [List.mem_map] at hk;obtain ⟨p,hp,S⟩:=hk;have a5:=i p hp;have e2:=Cy hm.once (r:=y.1) (v:=p.2) (v':=y.2) (by rw [<-S]; exact a5) h;have:p=y:=Prod.ext S e2;exact this ▸ hp
 .skip
  refine aB ?_;refine aK rfl (λh1=> ?_) (λh2=> ?_)
  .obtain ⟨U,Y,Z,c0,a6⟩:xw v:=ab _ O;subst a6;refine aB ?_;refine mZ sK rfl rfl rfl s ?_;refine aB ?_;refine fw rfl tX rfl is68.q rfl rfl ?_;rintro g3 w3 f3;refine aB ?_;have d:MJ m c (k,.agg (l8 U (.slice Y Z c0)).toArray):=by
    refine ⟨?_,λy A=> ?_⟩
    .rw [List.map_append];refine List.nodup_append.2 ⟨B,ZM,λa ha b hb e=> ?_⟩;simp at hb;subst hb;subst e;exact R ha
    .rcases ZH A with h|h
     .exact i y h
     .rw [List.mem_singleton] at h;subst h;exact O
   have a7:J c M1 w2:=hJ _ _ _ _ hj (C.less ZJ);have D:J c M1 w3:=hJ _ _ _ _ a7 (.of_below f3.below);have aj:=f3.below.size;have E:H<w2.heap.size:=by obtain ⟨o,ho,_⟩:=s.iter; exact (Array.getElem?_eq_some_iff.1 ho).1
   have F:bm<w2.heap.size:=by have:=I.lt; omega
   have a0:=s.kept (f3.below.block H E) (f3.below.block bm F);refine fP rfl (λ_ _ hv=>f3.blk.fld hv) ?_;refine kE rfl rfl rfl (aA rfl ct aJ) (A c (k,.agg (l8 U (.slice Y Z c0)).toArray) M1 w3 D d (λq hq=>by have:=L q hq; omega) ZJ) ?_;rintro yb W3 hR;refine aB ?_;refine aK rfl (λa8=> ?_) (λa9=> ?_)
   .refine aB ?_;refine Cb results245 (.inr ?_);obtain ⟨M',hx⟩:=hR.no (by simpa using a8);exact ⟨_,M',hx⟩
   .refine aB ?_;obtain ⟨M',D,G⟩:=hR.yes (by simpa using a9);refine bH (c++ [(k,.agg (l8 U (.slice Y Z c0)).toArray)],M',some (k,.agg (l8 U (.slice Y Z c0)).toArray)) [0,6] rfl ⟨D,by rw [List.map_append]; exact a0.kept (hR.kept H ZJ j ZJ) (hR.kept bm ZJ n (hM bm (.inr rfl)).2),by have:=hR.size; show W.heap.size<W3.heap.size; omega,λq hq=>(G q hq).2,λh=> ?_,λh=> ?_,d.1,d.2⟩ ?_
    .rcases (G _ h).1 with h|h
     .exact j h
     .omega
    .rcases (G _ h).1 with h|h
     .exact n h
     .omega
    .have aa:=dY (l:=(c++ [(k,Value.agg (l8 U (.slice Y Z c0)).toArray)]).map (·.1)) (k:=m.map (·.1)) d.1 (λy A=>by
      obtain ⟨p,hp,rfl⟩:=List.mem_map.1 A;exact List.mem_map.2 ⟨p,d.2 p hp,rfl⟩)
     show m.length-(c++ [_]).length<m.length-c.length;simp at aa ⊢;omega
  .exact absurd h2 ZM
theorem K9 {bm:Nat}:Gives prog 151 #[.map (some bm)] w λu a=>ZT w a/\ ∃g,u= .func (.func 245) #[] [.pointer (some ⟨g,0,none⟩)].toArray/\Blk a g 206 [.map (some bm)]:=by
 refine gv func151 ntmps151 ?_;refine aB ?_;refine bS rfl rfl rfl rfl ?_;rintro g c b;refine aB ?_;refine Ov [0,1,2] rfl ?_;refine dN rfl rfl (aA rfl ct aJ) ?_;refine aB ?_;refine aO rfl ⟨b.below,g,rfl,b.blk⟩
theorem yG {enc:α->List Value} {Pos:List α->α->Prop} {Done:List α->Prop} (h:IterOK prog gf cap enc Pos Done own w) (hb:ZT w w'):IterOK prog gf cap enc Pos Done own w':=by
 intro l J b W M c d;exact h l J b W M (λk e a=>(c k e (Nat.lt_of_lt_of_le a hb.size)).trans (hb.block k a)) (Nat.le_trans hb.size d)
def kN (xs:List KV):List Value:=xs.flatMap λp=>p.2.cells.toList
theorem AO (pre:List KV) (k:ByteArray) (e:Ev) (v:Value):kN (pre++ [(k,.agg (l8 e v).toArray)])=kN pre++l8 e v:=by
 unfold kN;simp [Value.cells]
theorem Be {Pos:List KV->KV->Prop} {Done:List KV->Prop} (aq:IterOK prog gf cap (λx:KV=> [x.2]) Pos Done own w) (ar:enters prog gf=true) (E: ∀k,own k->k<w.heap.size) (au: ∀a x,Pos a x->a.length<=100000000000/\xw x.2) :
  Gives prog 324 #[.slice none 0 0,.func (.func gf) #[] cap.toArray] w λv w'=>ZT w w'/\ ∃R,Done R/\OwnS w' 68 4 v R.length (kN R)/\ ∀g,v.ownBlock=some g->w.heap.size<=g:=by
 refine Tv func324 ntmps324 ?_;refine aB ?_;refine bS rfl rfl rfl rfl ?_;rintro m w1 S;refine aB ?_;have ay:=S.at_;have az:=S.size;refine EB rfl ar (yG aq S.below) rfl (λ_=>rfl)
  (λa M W=>ZT w W/\ ∃l,Blk W m 39 [l]/\OwnS W 68 4 l a.length (kN a)/\(∀q,l.ownBlock=some q->w1.heap.size<=q)/\M=λk=>k=m\/l.ownBlock=some k)
  (λc a M W=>False) (λk=>k=m)
  (λk t=>by subst t; exact ⟨ZJ,λh=>by have:=E _ h; omega⟩) (λk t=>by have:=E k t; omega)
  (λa M W1 y ⟨F,l,u,A,B,a5⟩ z=>⟨(z.less ZJ).below F ZC,l,u.ext z,A.ext z,B,a5⟩)
  (λc a M W1 y h z=>h)
  ⟨S.below,.slice none 0 0,S.blk,OwnS.nil _ _ _,λq b=>by simp [Value.ownBlock] at b,by funext k; simp [Value.ownBlock]⟩ ?_ ?_ ?_
 .rintro D L a p M W hD hL ⟨F,l,u,A,B,rfl⟩ U av Y Z n;obtain ⟨b0,e0,A0,n0,c0,a0⟩:=au a p U;obtain ⟨pk,pv⟩:=p;dsimp only at a0;subst a0;refine dK ?_;refine fw rfl tX rfl is68.q rfl rfl ?_;rintro g5 w5 G;refine aB ?_;have H:=n.kept (G.below.block L n.lt);have F:=F.step G.below;have u:=u.next G.below;have A:=A.below G.below;have b1:=G.below.size;have b2:=n.lt;refine ni H λy z b3 t o=> ?_;have a6:Blk y m 39 [l]:=u.ext z;have a7:=A.ext z;have a8:ZT w y:=(z.less ZJ).below F ZC;have ag:=G.blk.ext z;refine aB ?_;refine aG rfl (a6.cell 0) ?_;refine fP rfl (λ_ _ N=>ag.fld N) ?_;refine bI 68 _ rfl rfl rfl Gd (aA rfl ct aJ) rfl rfl rfl rfl rfl ?_;rintro g3 w3 C;have o3:=a7.below C.below;refine aT (l8 e0 (.slice A0 n0 c0)) rfl rfl AL rfl o3 rfl rfl (λj v hj=>⟨⟨g3,0,none⟩,rfl,C.blk.fld hj⟩) (λv N=>by simp [l8] at N; rcases N with rfl|rfl|rfl|rfl<;>rfl) ZJ ZJ ?_;rintro i O o4 r ah;have s3:=C.below.size;have ai:L<y.heap.size:=o.lt;have a9: ∀q,l.ownBlock=some q->q<y.heap.size:=λq b=>a7.lt b;have aa:l.ownBlock≠some L:=λe=>Y (.inr e);have aj:l.ownBlock≠some D:=λe=>Z (.inr e);have ab:L≠m:=λe=>Y (.inl e);have ak:D≠m:=λe=>Z (.inl e)
  have b4:Blk O m 39 [l]:=GB.blk r (a6.next C.below) (λe=>by have:=B _ e; omega);obtain ⟨A4,c4,al,_⟩:=o4.form;have am:i.oneCell'=true:=by rw [al]; rfl
  refine fu rfl is39.q rfl rfl (b4.cell 0) (b4.frozen 0) am ?_;refine aB ?_;have ac:O.heap[L]?=y.heap[L]?:=(r.block L ZJ (λe=>aa e.symm)).trans (C.below.block L ai);have an:ZT w O:=(a8.step C.below).grown r (a8.step C.below).size (λq b=>by have:=B q b; omega);have aw:y.heap.size<=O.heap.size:=Nat.le_trans s3 r.size;have d: ∀q,i.ownBlock=some q->l.ownBlock=some q\/q=w3.heap.size:=λq b=>by
   rcases ah with h|h
   .exact .inl (by rw [<-h]; exact b)
   .rw [h] at b; cases b; exact .inr rfl
  have b5:w1.heap.size<=y.heap.size:=ZJ;have o5:OwnS (O.setCell ⟨m,0,none⟩ i) 68 4 i (a.length+1) (kN a++l8 e0 (.slice A0 n0 c0)):=o4.kept λq b=>Below.heap_setCell _ _ _ _ (λe=>by
   have e:q=m:=e;rcases d q b with h|h
   .have:=B q h; omega
   .omega)
  refine my (o.kept ((Below.heap_setCell _ _ _ _ (by show L≠m; exact ab)).trans ac)) λW5 I ad ao J=> ?_;have b6:W5.heap.size=O.heap.size:=by rw [ad]; simp
  refine ⟨ZJ,λk ap ae af=> ?_,λ_=>⟨λk=>k=m\/i.ownBlock=some k,⟨⟨(I.less ZJ).below (an.setCell (by show w.heap.size<=m; omega) _) ZC,i,(b4.set 0 i).ext I,by rw [AO]; simpa using o5.ext I,λq b=> ?_,rfl⟩,λh=> ?_,λh=> ?_,J⟩,λk t=> ?_⟩,λh=>by cases h⟩
  .refine (ao k af).trans ((Below.heap_setCell _ _ _ _ (λe=>ae (.inl e))).trans ((r.block k ZJ (λe=>ae (.inr e.symm))).trans ((C.below.block k ZJ).trans ((t k af).trans (G.below.block k ap)))))
  .rcases d q b with h|h
   .exact B q h
   .omega
  .rcases h with h|h
   .exact ab h
   .rcases d L h with h|h
    .exact aa h
    .omega
  .rcases h with h|h
   .exact ak h
   .rcases d D h with h|h
    .exact aj h
    .omega
  .rcases t with rfl|t
   .exact ⟨.inl (.inl rfl),ZJ⟩
   .rcases d k t with h|h
    .exact ⟨.inl (.inr h),by have:=a9 k h; omega⟩
    .refine ⟨.inr ZJ,?_⟩;have:=o4.lt t;omega
 .rintro D R M W hD K ⟨F,l,u,A,B,rfl⟩ s;refine fB (aL ?_);refine aB ?_;refine aG rfl (u.cell 0) ?_;refine aB ?_;have b7:m≠D:=λe=>by subst e; unfold Blk at u; rw [s] at u; cases u
  refine LH results324 rfl s ⟨yH F ZJ,R,K,A.kept λq b=>World.putObj_heap_other (λe=> ?_),λq b=>by have:=B q b; omega⟩;subst e;rcases A.2 with ⟨rfl,_⟩|⟨g',ax,b8,N,_,hh,_⟩
  .simp [Value.ownBlock] at b
  .rw [N] at b;simp [Value.ownBlock] at b;subst b;rw [s] at hh;cases hh
 .rintro D c a M W hD h;exact h.elim
theorem Gs {Pos:List KV->KV->Prop} {Done:List KV->Prop} (d:IterOK prog gf cap (λx:KV=> [x.2]) Pos Done own w) (e:enters prog gf=true) (b: ∀k,own k->k<w.heap.size) (h: ∀a x,Pos a x->a.length<=100000000000/\xw x.2) :
  Gives prog 294 #[.func (.func gf) #[] cap.toArray] w λv i=>ZT w i/\ ∃c,Done c/\OwnS i 68 4 v c.length (kN c)/\ ∀g,v.ownBlock=some g->w.heap.size<=g:=by
 refine gv func294 ntmps294 ?_;refine aB ?_;refine aN rfl (Be d e b h) ?_;rintro l m j;refine aB ?_;refine aO rfl (j)
end
end Go.Proofs.YtoleahhfkpkcjaaGreatDoor
namespace Go.Proofs.YtoleahhfkpkcjaaGreatDoor
open Go.Proofs.Tryz
open Go.PF Go.RowKit
section
open Go.Sort Go.Proofs
theorem Kn (h:BelD w w'): ∃q a,w'=grow (w.drewN q) a:=by
 refine ⟨w'.drawn-w.drawn,(w'.heap.toList.drop w.heap.size).toArray,?_⟩;have c:w'.heap=w.heap++(w'.heap.toList.drop w.heap.size).toArray:=by
  apply Array.ext';rw [Array.toList_append];have:w'.heap.toList.take w.heap.size=w.heap.toList:=by
   apply List.ext_getElem?;intro i;by_cases e:i<w.heap.size
   .rw [List.getElem?_take_of_lt e,Array.getElem?_toList,Array.getElem?_toList];exact h.b.block i e
   .rw [List.getElem?_take_eq_none ZJ,List.getElem?_eq_none ZO]
  rw [<-this];simp
 have f:w'.drawn=w.drawn+(w'.drawn-w.drawn):=by have:=h.d; omega
 obtain ⟨o,g,p,j,k⟩:=w';have l:=h.b.os;have m:=h.b.tape;have n:=h.b.output;subst l; subst m; subst n;simp only [grow,World.drewN] at c f ⊢;rw [<-c,<-f]
theorem AC {os:Array Obj} {cur:Array Value} {e:TypeId} {fr:Nat×Nat} (d:Array Value) (hb:w.heap[g]?=some (.cells cur e fr)) :
  (grow (putRow id (Sort.ahead w n) g 0 d) os).heap[g]?=some (.cells (putCells id 0 d cur) e fr):=by
 have a:=(Array.getElem?_eq_some_iff.1 hb).1;rw [heap_grow_old _ _ (by simpa using a)];simp [putRow,mapBlock,Array.getElem?_modify,hb,onCells]
theorem oo {os:Array Obj} (d:Array Value):w.grownBy (grow (putRow id (Sort.ahead w n) g 0 d) os) (some g):=by
 refine ⟨rfl,rfl,rfl,ZM,λk b a=> ?_⟩;rw [heap_grow_old _ _ (by simpa using b)];have:g≠k:=λe=>a (by rw [e]);simp [putRow,mapBlock,Array.getElem?_modify,this]
theorem wu (a:Array Value) (ts:List Value) (h:ts.length<=a.size):(putCells id 0 ts.toArray a).toList.take ts.length=ts:=by
 apply List.ext_getElem?;intro j;by_cases b:j<ts.length
 .simp [putCells,b,show j<a.size by omega]
 .rw [List.getElem?_take_eq_none ZJ,List.getElem?_eq_none ZJ]
theorem zq [Inhabited α] (enc:α->List Value) (c:0<k) (f: ∀y,(enc y).length=k) (ys:List α):flatK enc k ys.toArray=(ys.flatMap enc).toArray:=by
 have a:=lD enc k ys λy _=>f y;apply Array.ext
 .simp [a]
 .intro t d g;have h:t<ys.length*k:=by simpa using d
  have e:=get_flatK enc k ys.toArray t (by simpa using h);rw [getElem!_pos _ t d] at e;rw [e];have b:t<(ys.flatMap enc).length:=by simpa using g
  obtain ⟨x,i,j⟩:=Dn enc k c ys (λy _=>f y) t _ (ZD b);obtain ⟨l,rfl⟩:=ZE i;have m:(ys.toArray)[t / k]! = ys[t / k]:=by simp [l]
  rw [m];obtain ⟨n,o⟩:=ZE j;rw [getElem!_pos _ (t%k) n];exact o
theorem Hd {P:Program} {ren:Go.Shelf.Ren} (L:SlLaysF0.n6 P ren) (enc:α->List Value) (J:0<k) (R: ∀y,(enc y).length=k) (h1: ∀y,∀u∈enc y,u.oneCell'=true) {cf:α->α->Int} (a4:SWO (ltOf cf)) {kf:FuncId} {cb:Array Value} {e:TypeId} {ys:List α}
  (aE: ∀W,(isAgg (ren.t 24)).run P W= .ok true W) (zE: ∀W,(Go.sizeOf (ren.t 24)).run P W= .ok k W) (a5:enters P kf=true) (K:OwnS w e k v ys.length (ys.flatMap enc)) (hn:ys.length<=100000000000)
  (hc: ∀W,w.grownBy W v.ownBlock-> ∀x y,Gives P kf (#[.agg (enc x).toArray,.agg (enc y).toArray]++cb) W λu q=>BelD W q/\u= ZU (cf x y)) :
  Gives P (ren.f 6) #[v,.func (.func kf) #[] cb] w λ_ q=>w.grownBy q v.ownBlock/\ ∃M:List α,M.Perm ys/\M.Pairwise (λa b=> ¬cf b a<0)/\OwnS q e k v M.length (M.flatMap enc):=by
 rcases Classical.em (ys= []) with S|C
 .subst S;obtain ⟨A,d,B,_⟩:=K.form;have h:Calls P (ren.f 6) #[.slice A 0 d,.func (.func kf) #[] cb] w _:=AnyF.slices_SortFunc_none L A d _ w;rw [B];refine Calls.mono h ?_;rintro e q ⟨rfl,rfl⟩;rw [B] at K;exact ⟨_,rfl,⟨rfl,rfl,rfl,ZC,λ_ _ _=>rfl⟩,[],List.Perm.refl _,List.Pairwise.nil,K⟩
 .obtain ⟨y0,_⟩:=List.exists_mem_of_ne_nil ys C
  haveI:Inhabited α:=⟨y0⟩
  rcases K.2 with ⟨_,S⟩|⟨b,d,r,B,hb,N,h2,h3,h4,h5⟩
  .exact absurd (List.eq_nil_of_length_eq_zero S) C
  have D:=(Array.getElem?_eq_some_iff.1 N).1;have l:v.ownBlock=some b:=by rw [B]; rfl
  have U:=zq enc J R ys;have a6:=K.1;have hH:HoldsK enc k w b 0 ys.toArray:=by
   unfold HoldsK;rw [U];intro j O;have E:j<(ys.flatMap enc).length:=by simpa using O
   refine ⟨?_,by simp [World.frozen?,N]⟩;have F:(r.toList.take (ys.length*k))[j]?=(ys.flatMap enc)[j]?:=by rw [h5]
   rw [List.getElem?_take_of_lt ZJ] at F;simp only [World.cell?,N,Nat.zero_add];rw [<-Array.getElem?_toList,F];rw [getElem!_pos _ j O];simp
  have G:CmpLays P kf cb enc k cf b 0 ys.toArray.size w:=by
   intro m os dk a7 x y;refine Calls.mono (hc _ (l ▸ oo _) x y) ?_;rintro e q ⟨u,rfl,Y,rfl⟩;exact ⟨rfl,Kn Y⟩
  have Z:ys.toArray.size<4611686018427387904:=ZO;have h:=AnyQ.slices_SortFunc (α:=α) L k aE zE enc R h1 cf a4 kf cb b 0 d ys.toArray w (λH W=>jF a5 H W) G hH D Z;have a0:ys.toArray.size=ys.length:=ZM;rw [a0,<-B] at h;refine Calls.mono h ?_;rintro e' q ⟨rfl,c,n,os,⟨a1,_,I⟩,hs,rfl⟩;have o:c.size=ys.length:=by simpa using a1
  have hd:c=c.toList.toArray:=ZM;have s:c.toList.Perm ys:=by
   have e1:(c.extract 0 ys.length).toList=c.toList:=by rw [<-o]; simp
   have e2:(ys.toArray.extract 0 ys.length).toList=ys:=ZM;rw [e1,e2] at I;exact I
  have p:=zq enc J R c.toList;have g:c.toList.length=ys.length:=by simpa using o
  have z:(c.toList.flatMap enc).length=ys.length*k:=by
   rw [lD enc k _ λy _=>R y,g]
  refine ⟨_,rfl,l ▸ oo _,c.toList,s,?_,?_⟩
  .rw [List.pairwise_iff_getElem];intro i j hi O a2;have F:=hs i j ZB a2 ZJ;have a3:i<c.size:=by simpa using hi
   have E:j<c.size:=by simpa using O
   rw [getElem!_pos c i a3,getElem!_pos c j E] at F;simpa [ltOf] using F
  .refine ⟨by rw [z,g],.inr ⟨b,d,putCells id 0 (flatK enc k c) r,B.trans (by rw [g]),hb,?_,ZJ,h3,?_,?_⟩⟩
   .exact AC _ N
   .simp [putCells,h4]
   .rw [p,g,<-z];refine wu r _ ?_;rw [z,h4];exact Nat.mul_le_mul_right _ ZJ
end
section
open Go.Ord Go.Sort Go.Proofs
def TV (base:Nat) (w:World) (v:Value) (k:Nat):Prop:=base<=k/\k<w.heap.size/\v.ownBlock≠some k
abbrev EvA (base:Nat) (w:World) (v:Value):= {p:Ev×Value // EvOK (TV base w v) w p.2 p.1/\p.1.needs.length<=1000000}
def Gg {base:Nat} {w:World} {v:Value} (y:EvA base w v):List Value:=l8 y.1.1 y.1.2
theorem Nw (y:EvA base w v): ∀u∈Gg y,u.oneCell'=true:=λu a=>by
 obtain ⟨A,c,b,_⟩:=y.2.1.nd.form;simp [Gg,l8] at a;rcases a with rfl|rfl|rfl|rfl
 .rfl
 .rfl
 .rfl
 .rw [b]; rfl
def XT {base:Nat} {w:World} {v:Value} (x y:EvA base w v):Int:=jO x.1.1 y.1.1
theorem WT (x y:EvA base w v):ltOf XT x y=decide (jO x.1.1 y.1.1<0):=rfl
theorem Wv:SWO (ltOf (XT (base:=base) (w:=w) (v:=v))) where
 irrefl x:=by rw [WT,cmpE_zero.2 rfl]; rfl
 trans x y z h1 h2:=by
  rw [WT,decide_eq_true_eq] at *;exact lI h1 h2
 ntrans x y z h1 h2:=by
  rw [WT,decide_eq_false_iff_not] at *;intro a;rcases Classical.em (jO y.1.1 x.1.1<0) with b|b
  .exact h2 (by
    have c:=lI b a;exact c)
  .have f:=pZ (dE x.1.1) (dE y.1.1);have d:jO x.1.1 y.1.1=0:=by unfold jO at *; omega
   have e:=cmpE_zero.1 d;rw [e] at a;exact h2 a
theorem Pj {ys:List (EvA base w v)} {c0:List Value} (h:c0= [.pointer (some ⟨g,0,none⟩)]) (o:OwnS w 68 4 v ys.length (ys.flatMap Gg)) (hn:ys.length<=100000000000) (p:Blk w g 215 [.func (.func 152) #[] #[]]) (i:v.ownBlock≠some g) :
  Gives prog 295 #[v,.func (.func 243) #[] c0.toArray] w λ_ j=>w.grownBy j v.ownBlock/\ ∃c:List (EvA base w v),c.Perm ys/\c.Pairwise (λa b=> ¬jO b.1.1 a.1.1<0)/\OwnS j 68 4 v c.length (c.flatMap Gg):=by
 refine Hd El Gg (k:=4) ZL (λ_=>rfl) Nw Wv (kf:=243) (cb:=c0.toArray) (e:=68) (w:=w) (v:=v) (ys:=ys) isAgg68 sizeOf68 ZK o hn λW l x y=> ?_;subst h;have d:Kept (TV base w v) w W:=Kept.of_blocks λk n f=>l.block k f λe=>n.2.2 e.symm;have m: ∀z:EvA base w v,EvOK (TV base w v) W z.1.2 z.1.1:=λz=>⟨z.2.1.i1,z.2.1.i2,z.2.1.i3,z.2.1.nd.mono d⟩;exact I7 (m x) (m y) x.2.2 y.2.2 (GB.blk l p i)
end
section
open Go.Ord Go.Sort Go.Proofs
attribute [local irreducible] TW CW KW DW
theorem nO {α β:Type} {f:α->List β} {k:Nat}: ∀ {l:List α},(∀x∈l,(f x).length<=k)->(l.flatMap f).length<=l.length*k
 | [],_=>by simp
 | x::l,h=>by
  rw [List.flatMap_cons,List.length_append,List.length_cons,Nat.succ_mul];have b:=h x ZM;have c:=nO (l:=l) λy a=>h y (by simp [a]);omega
def xH (l:List Sc) (r:List Rc):List Ev :=
 (List.range (r.length+1)).flatMap λa=>(List.range (r.length+1)).flatMap λb=>(List.range (r.length+1)).flatMap λd=>(List.range r.length).map λi =>
  kz l (r.getD i ⟨0,0,0,0,ByteArray.empty,[]⟩) (dI (([a,b,d].filter λk=>decide (k<r.length))++ [i]))
theorem zG (h:r.length<=400):(xH l r).length<=26000000000:=by
 have c:(xH l r).length<=(r.length+1)*((r.length+1)*((r.length+1)*r.length)):=by
  refine Nat.le_trans (nO (k:=(r.length+1)*((r.length+1)*r.length)) λa _=> ?_) ZM;refine Nat.le_trans (nO (k:=(r.length+1)*r.length) λb _=> ?_) ZM;refine Nat.le_trans (nO (k:=r.length) λd _=> ?_) ZM;simp
 have e:(r.length+1)*((r.length+1)*((r.length+1)*r.length))<=401*(401*(401*400)) :=
  Nat.mul_le_mul ZJ (Nat.mul_le_mul ZJ (Nat.mul_le_mul ZJ h))
 omega
theorem vN (h:Fol l r lab e):e∈xH l r:=by
 obtain ⟨c,a,i,x,n,o,w,_,rfl⟩:=h.has;have b: ∀m∈c,m<r.length:=λm t=>by
  obtain ⟨y,u,_⟩:=n.lt m t;exact (ZE u).1
 have f:=(ZE o).1;have d:r.getD i ⟨0,0,0,0,ByteArray.empty,[]⟩=x:=by rw [List.getD_eq_getElem?_getD,o]; rfl
 have g: ∃p q s,p<=r.length/\q<=r.length/\s<=r.length/\([p,q,s].filter λk=>decide (k<r.length))=c:=by
  have j:=n.len
  match c,b,j with
  | [],_,_=>exact ⟨r.length,r.length,r.length,ZC,ZC,ZC,ZM⟩
  | [p],b,_=>exact ⟨p,r.length,r.length,Nat.le_of_lt (b p ZM),ZC,ZC,by simp [b p]⟩
  | [p,q],b,_=>exact ⟨p,q,r.length,Nat.le_of_lt (b p ZM),Nat.le_of_lt (b q ZM),ZC,by simp [b p,b q]⟩
  | [p,q,s],b,_=>exact ⟨p,q,s,Nat.le_of_lt (b p ZM),Nat.le_of_lt (b q ZM),Nat.le_of_lt (b s ZM),by simp [b p,b q,b s]⟩
  | _::_::_::_::_,_,j=>simp at j
 obtain ⟨p,q,s,z,A,B,v⟩:=g;unfold xH;simp only [List.mem_flatMap,List.mem_map,List.mem_range];exact ⟨p,ZJ,q,ZJ,s,ZJ,i,f,by rw [v,d]⟩
def EvRow (base:Nat) (w:World) (v:Value) (qs:List (Ev×Value)):Prop:=OwnS w 68 4 v qs.length (qs.flatMap λq=>l8 q.1 q.2)/\ ∀q∈qs,EvOK (TV base w v) w q.2 q.1
theorem EvRow.below {base:Nat} {w w':World} {v:Value} {qs:List (Ev×Value)} (h:EvRow base w v qs) (hb:ZT w w'):EvRow base w' v qs :=
 ⟨h.1.below hb,λq c=>let a:=h.2 q c; ⟨a.i1,a.i2,a.i3,(a.nd.below hb).wider λk b=>⟨b.1,Nat.lt_of_lt_of_le b.2.1 hb.size,b.2.2⟩⟩⟩
theorem EvRow.nil (base:Nat) (w:World):EvRow base w (.slice none 0 0) []:=⟨OwnS.nil _ _ _,λq a=>by cases a⟩
theorem EvRow.sl (h:EvRow base w v qs) (hn:qs.length<=9223372036854775807):SE w v (qs.map (·.1)):=by
 have e:(qs.map λq=>(l8 q.1 q.2,q.1)).flatMap (·.1)=qs.flatMap λq=>l8 q.1 q.2:=by rw [List.flatMap_map]
 have:=eB (T:=evT) (qs.map λq=>(l8 q.1 q.2,q.1)) (λp b=>by
  obtain ⟨q,c,rfl⟩:=List.mem_map.1 b;have a:=h.2 q c;exact ⟨q.2,rfl,a.i1,a.i2,a.i3,a.nd.wider λk d=>d.2.1⟩) ZL (by rw [e]; exact h.1) ZM (λg f=>h.1.lt f) (by simpa using hn)
 have i:(qs.map λq=>(l8 q.1 q.2,q.1)).map (·.2)=qs.map (·.1):=by rw [List.map_map]; rfl
 rw [i] at this;exact this
theorem Ad {gm:Nat} {Z:List Ev} {c0 c1:List Value} (ab:c0= [.pointer (some ⟨g,0,none⟩)]) (ac:c1= [.pointer (some ⟨gm,0,none⟩)]) (O:Blk w gm 206 [.map (some fb)]) (hF:FoundIs base w fb S) (ad: ∀e,S e->e.needs.length<=1000) (hZ:Z.length<=26000000000) (ae: ∀e,S e->e∈Z)
  (hB:Blk w g 215 [.func (.func 152) #[] #[]]) :
  Gives prog 242 #[.func (.func 245) #[] c1.toArray,.func (.func 243) #[] c0.toArray] w λv w'=>ZT w w'/\(∀k,v.ownBlock=some k->w.heap.size<=k)/\ ∃W,EvRow base w' v W/\SrtE (W.map (·.1))/\ ∀e,e∈W.map (·.1)↔S e:=by
 obtain ⟨m,hm,F,Y⟩:=hF;have o: ∀p∈m,xw p.2:=λp B=>by
  obtain ⟨e,R,rfl,n,_⟩:=F p B;obtain ⟨A,c,hv,_⟩:=n.nd.form;exact ⟨e,A,_,c,by rw [hv]⟩
 have C: ∀D:List KV,(D.map (·.1)).Nodup->(∀y∈D,y∈m)->D.length<=26000000000:=λD hn hs=>by
  have:=dY (l:=D.map (·.1)) (k:=Z.map ja) hn λy i=>by
   obtain ⟨p,B,rfl⟩:=List.mem_map.1 i;obtain ⟨e,R,rfl,_,H⟩:=F p (hs p B);exact List.mem_map.2 ⟨e,ae e H,rfl⟩
  simp at this;omega
 refine gv func242 ntmps242 ?_;refine aB ?_;have a0:IterOK prog 245 c1 (λx:KV=> [x.2]) (MJ m) (Re m) (λk=>k=gm\/k=fb) w:=ac ▸ BI O hm o;refine aN rfl (Gs a0 Vp (λk t=>by rcases t with rfl|rfl; exact O.lt; exact hm.lt) (λaf x B=>⟨by have:=C _ B.1 B.2; simp at this; omega,o _ (B.2 x ZM)⟩)) ?_;rintro U J ⟨r,D,⟨K,s⟩,a1,j⟩;have ag:=C D K λy i=>(s y).1 i;have a2:=hB.next r;have a3:U.ownBlock≠some g:=λe=>by have:=j _ e; have:=hB.lt; omega
 have a4: ∀u:List KV,(∀p∈u,p∈m)-> ∃z:List (EvA base J U),z.length=u.length/\z.flatMap Gg=kN u/\z.map (λy=>ja y.1.1)=u.map (·.1)/\ ∀y∈z,S y.1.1:=by
  intro u
  induction u with
  | nil=>exact λ_=>⟨[],rfl,rfl,rfl,λy i=>by cases i⟩
  | cons p u ih =>
   intro h;obtain ⟨z,I,h2,h3,h4⟩:=ih λq hq=>h q (by simp [hq]);obtain ⟨e,R,rfl,n,H⟩:=F p (h p ZM);have L:EvOK (TV base J U) J R e:=⟨n.i1,n.i2,n.i3,(n.nd.below r).wider λk t=>⟨t.1,Nat.lt_of_lt_of_le t.2 r.size,λe2=>by have:=j _ e2; omega⟩⟩;refine ⟨⟨(e,R),L,by have:=ad e H; show e.needs.length<=_; omega⟩::z,by simp [I],?_,by simp [h3],λy i=> ?_⟩
   .rw [List.flatMap_cons,h2];simp [kN,Gg,Value.cells]
   .rcases List.mem_cons.1 i with rfl|i
    .exact H
    .exact h4 y i
 obtain ⟨z,a5,a6,M,a7⟩:=a4 D λp B=>(s p).1 B;refine aB ?_;refine aN rfl (Pj (ys:=z) ab (by rw [a5,a6]; exact a1) ZJ a2 a3) ?_;rintro y2 w2 ⟨G,u,d,N,a8⟩;refine aB ?_;have a9:Kept (TV base J U) J w2:=Kept.of_blocks λk t aa=>G.block k aa (λe=>t.2.2 e.symm);refine aO rfl ⟨r.grown G r.size j,j,u.map (·.1),⟨?_,λq hq=> ?_⟩,?_,λe=> ?_⟩
 .rw [List.flatMap_map,List.length_map];exact a8
 .obtain ⟨y,i,rfl⟩:=List.mem_map.1 hq;have a:=y.2.1;exact ⟨a.i1,a.i2,a.i3,(a.nd.mono a9).wider λk t=>⟨t.1,Nat.lt_of_lt_of_le t.2.1 G.size,t.2.2⟩⟩
 .have E:(u.map λy=>ja y.1.1).Nodup:=by
   have I:(z.map λy=>ja y.1.1).Nodup:=by rw [M]; exact K
   exact (d.map _).nodup_iff.2 I
  rw [List.map_map];unfold SrtE;rw [List.pairwise_map];rw [List.nodup_iff_pairwise_ne,List.pairwise_map] at E;refine (N.and E).imp λ{a b} h=> ?_;obtain ⟨I,h2⟩:=h;show jO a.1.1 b.1.1<0;have h3:=kU a.1.1 b.1.1;have h4:jO a.1.1 b.1.1≠0:=λe=>h2 (by rw [cmpE_zero.1 e]);omega
 .rw [List.map_map,List.mem_map];constructor
  .rintro ⟨y,i,rfl⟩;exact a7 y (d.mem_iff.1 i)
  .intro H;obtain ⟨v,hv⟩:=Y e H;have I:ja e∈z.map λy=>ja y.1.1:=by
    rw [M];exact List.mem_map.2 ⟨_,(s _).2 hv,rfl⟩
   obtain ⟨y,i,he⟩:=List.mem_map.1 I;exact ⟨y,d.mem_iff.2 i,tY he⟩
theorem I6 {gm:Nat} {Z:List Ev} {c1:List Value} (h:c1= [.pointer (some ⟨gm,0,none⟩)]) (i:Blk w gm 206 [.map (some fb)]) (o:FoundIs base w fb S) (j: ∀e,S e->e.needs.length<=1000) (p:Z.length<=26000000000) (l: ∀e,S e->e∈Z) :
  Gives prog 150 #[.func (.func 245) #[] c1.toArray,.func (.func 152) #[] #[]] w λv m=>ZT w m/\(∀k,v.ownBlock=some k->w.heap.size<=k)/\ ∃c,EvRow base m v c/\SrtE (c.map (·.1))/\ ∀e,e∈c.map (·.1)↔S e:=by
 refine gv func150 ntmps150 ?_;refine aB ?_;refine bS rfl rfl rfl rfl ?_;rintro q r a;refine aB ?_;refine dN rfl rfl (aA rfl ct aJ) ?_;refine aN rfl (Ad rfl h (i.next a.below) (o.below a.below) j p l a.blk) ?_;rintro s t ⟨d,b,g⟩;refine aB ?_;refine aO rfl ⟨a.below.step d,λk n=>Nat.le_trans a.below.size (b k n),g⟩
end
section
open Go.Ord Go.Sort Go.Proofs
attribute [local irreducible] TW CW KW DW
theorem J7 {sb:Nat} (G:SrcOK w sb bl bh u v l r) (ht:TabI w) (U:1<=n) (W:n<=4) :
  Gives prog 78 #[.pointer (some ⟨sb,0,none⟩),.string lab,ZU (n:Int)] w λy Y=>ZT w Y/\(∀k,y.ownBlock=some k->w.heap.size<=k)/\ ∃H,EvRow w.heap.size Y y H/\SrtE (H.map (·.1))/\ ∀e,e∈H.map (·.1)↔Fol l r lab e/\e.needs.length=n:=by
 have a0:bl<w.heap.size:=by obtain ⟨m,h,_⟩:=G.lab; exact h.lt
 have a3:bh<w.heap.size:=by obtain ⟨m,h,_⟩:=G.hold; exact h.lt
 refine gv func78 ntmps78 ?_;refine aB ?_;refine bS rfl rfl rfl rfl ?_;rintro gs w1 E;refine bS rfl rfl rfl rfl ?_;rintro gz w2 x;refine aB ?_;refine eZ sK rfl rfl ?_;rintro F w3 a6 a7 o I;refine lM rfl Uo rfl is206.q rfl ?_;rintro gf w4 s;refine aB ?_;refine gq rfl rfl Un ?_;rintro gw w5 d;refine aB ?_;refine dN rfl rfl (aA rfl ct (aA rfl ct (aA rfl ct (aA rfl ct aJ)))) ?_;have a1:=E.at_;have a2:=x.at_;have a4:=s.at_;have a5:=d.at_;have s1:=E.size;have s2:=x.size;have s4:=s.size;have s5:=d.size;have g:ZT w w5:=(((E.below.step x.below).step o).step s.below).step d.below;refine mq (j:=0) rfl is207.q rfl rfl d.blk ZL rfl ?_;rintro z A a Z;refine aB ?_;have b:ZT w z:=g.grown a g.size (λq J=>by cases J; omega);have B:MapL sK z F []:=((I.below s.below).below d.below).but a ZJ;have hX:FolCtx z sb bl bh u v l r gz gs gf gw F n :=
  ⟨G.below b,a.blk (((x.blk.next o).next s.below).next d.below) ZJ,a.blk ((((E.blk.next x.below).next o).next s.below).next d.below) ZJ,a.blk (s.blk.next d.below) ZJ,A,ht.below b,ZJ,ZJ⟩
 have K:FoundIs w.heap.size z F (λ_=>False):=⟨[],B,λp hp=>(by cases hp),λe h=>h.elim⟩;refine aG rfl (A.cell 0) ?_;refine aB ?_;refine fE rfl rfl Rt rfl (aA rfl ct (aA rfl ct aJ)) (Na (lab:=lab) U W (min n 3) z [] lab (.slice none 0 0) (λ_=>False) (λ_=>False) ZM ZM .nil (SL.nil _ _ _) hX b.size K) ?_;rintro y7 w7 ⟨c,L⟩;have i:ZT w w7:=b.grown c b.size (λq J=>by cases J; omega);have M:=hX.but c B;refine aB ?_;refine aG rfl (M.bf.cell 0) ?_;refine aN rfl (K9) ?_;rintro y8 w8 ⟨t,gm,rfl,N⟩;have O:FoundIs w.heap.size w8 F (λe=>Fol l r lab e/\e.needs.length=n):=(L.below t).congr λe=>by
  rw [fol_iff];exact ⟨λh=>h.resolve_left id,.inr⟩
 obtain ⟨c1,C⟩: ∃c1:List Value,c1= [.pointer (some ⟨gm,0,none⟩)]:=⟨_,rfl⟩;rw [<-C];refine aN rfl (I6 C N O (λe h=>by have:=h.1.len.2; omega) (zG (l:=l) G.few) (λe h=>vN h.1)) ?_;rintro y9 w9 ⟨R,D,S⟩;refine aB ?_;refine aO rfl ⟨(i.step t).step R,λk hk=>by have:=D k hk; have:=(i.step t).size; omega,S⟩
end
section
open Go.Ord Go.Sort Go.Proofs
attribute [local irreducible] TW CW KW DW
noncomputable def vE (l:List Sc) (r:List Rc) (lab:ByteArray):List Ev:=(xH l r).filter λe=>dec (Fol l r lab e)
theorem mem_folL:e∈vE l r lab↔Fol l r lab e:=by
 unfold vE;rw [List.mem_filter,dec_iff];exact ⟨λh=>h.2,λh=>⟨vN h,h⟩⟩
noncomputable def bO (l:List Sc) (r:List Rc) (lab:ByteArray):List Ev:=(canon (vE l r lab)).take 14
theorem Nf: ∀e∈vE l r lab,1<=e.needs.length/\e.needs.length<=4:=λ_ h=>(mem_folL.1 h).len
theorem RU {sb lo:Nat} (e:Blk w sb 205 [u,v,.map (some bl),.map (some bh)]) (f:Ou w l r lo bl bh r.length) (hl:SS w u l) (g:SR w v r) (a:r.length<=400):SrcOK w sb bl bh u v l r:=by
 obtain ⟨b,i,m,c,d⟩:=f;exact ⟨e,hl,g,LookIs.of c ZJ (λk j h=>h.1) a,LookIs.of d ZJ (λk j h=>h.1) a,a⟩
theorem DC (h:EvRow base w v qs): ∀u∈qs.flatMap (λq=>l8 q.1 q.2),u.oneCell'=true:=λu a=>by
 obtain ⟨q,b,a⟩:=List.mem_flatMap.1 a;obtain ⟨A,c,d,_⟩:=(h.2 q b).nd.form;simp [l8] at a;rcases a with rfl|rfl|rfl|rfl
 .rfl
 .rfl
 .rfl
 .rw [d]; rfl
theorem EvRow.app {c:Nat} {ev y v':Value} {qs':List (Ev×Value)} (n:c<=b) (h:EvRow c w ev qs) (r:EvRow b w y qs') (o: ∀g,ev.ownBlock=some g->g<b)
  (s:OwnS w' 68 4 v' (qs.length+qs'.length) (qs.flatMap (λq=>l8 q.1 q.2)++qs'.flatMap λq=>l8 q.1 q.2)) (l:w.grownBy w' ev.ownBlock) (hn:v'.ownBlock=ev.ownBlock\/v'.ownBlock=some w.heap.size):EvRow c w' v' (qs++qs'):=by
 refine ⟨by rw [List.flatMap_append,List.length_append]; exact s,λq f=> ?_⟩;have p: ∀ {F:Nat->Prop},(∀k,F k->c<=k/\k<w.heap.size/\ev.ownBlock≠some k)->EvOK F w q.2 q.1->EvOK (TV c w' v') w' q.2 q.1:=λj a =>
  ⟨a.i1,a.i2,a.i3,(a.nd.mono (Kept.of_blocks λk d i=>l.block k i (λe=>(j k d).2.2 e.symm))).wider λk d=>⟨(j k d).1,Nat.lt_of_lt_of_le (j k d).2.1 l.size,λe=>by
   rcases hn with m|m
   .exact (j k d).2.2 (by rw [<-m]; exact e)
   .rw [m] at e; cases e; have:=(j _ d).2.1; omega⟩⟩
 rcases ZH f with f|f
 .exact p (λk d=>d) (h.2 q f)
 .exact p (λk d=>⟨Nat.le_trans n d.1,d.2.1,λe=>by have:=o k e; have:=d.1; omega⟩) (r.2 q f)
theorem KI (h:EvRow base w v qs) (hb: ∀g,v.ownBlock=some g->base<=g) (hn:qs.length<=9223372036854775807):SL evT (λk=>base<=k/\k<w.heap.size) w v (qs.map (·.1)):=by
 have e:(qs.map λq=>(l8 q.1 q.2,q.1)).flatMap (·.1)=qs.flatMap λq=>l8 q.1 q.2:=by rw [List.flatMap_map]
 have:=eB (T:=evT) (F:=λk=>base<=k/\k<w.heap.size) (qs.map λq=>(l8 q.1 q.2,q.1)) (λp d=>by
  obtain ⟨q,f,rfl⟩:=List.mem_map.1 d;have a:=h.2 q f;exact ⟨q.2,rfl,a.i1,a.i2,a.i3,a.nd.wider λk b=>⟨b.1,b.2.1⟩⟩) ZL (by rw [e]; exact h.1) ZM (λg c=>⟨hb g c,h.1.lt c⟩) (by simpa using hn)
 have i:(qs.map λq=>(l8 q.1 q.2,q.1)).map (·.2)=qs.map (·.1):=by rw [List.map_map]; rfl
 rw [i] at this;exact this
theorem Dy (hl:SS w u l) (hr:SR w v r) (I:r.length<=400) (ht:TabI w) :
  Gives prog 34 #[u,v,.string lab] w λx w'=>ZT w w'/\SL evT (λk=>w.heap.size<=k/\k<w'.heap.size) w' x (bO l r lab):=by
 obtain ⟨A,al,hv,_⟩:=hr.form;subst hv;obtain ⟨B,af,hu,_⟩:=hl.form;subst hu;refine gv func34 ntmps34 ?_;refine aB ?_;refine aI rfl (λag=> ?_) (λa4=> ?_)
 .exact absurd I ZJ
 refine aB ?_;refine aN rfl (Sj hl hr I) ?_;rintro y1 w1 ⟨d,sb,bl,bh,lo,rfl,a5,a6⟩;have a7:=RU a5 a6 (rJ hl d) (G9 hr d) I;refine aB ?_;refine bT (λx:Nat×Value×List (Ev×Value)=> [(2,none,.string lab),(7,none,.pointer (some ⟨sb,0,none⟩)),(8,none,x.2.1),(9,none,ZU ((x.1:Int)+1))])
  (λx W=>x.1<=4/\ZT w1 W/\EvRow w.heap.size W x.2.1 x.2.2/\(∀g,x.2.1.ownBlock=some g->w1.heap.size<=g)/\x.2.2.map (·.1)=upTo (vE l r lab) x.1) (λx=>4-x.1)
  (0,.slice none 0 0,[]) [2,7,8,9] ⟨ZB,ZA,EvRow.nil _ w1,λg C=>(by simp [Value.ownBlock] at C),rfl⟩ rfl ?_
 rintro ⟨k,ev,m⟩ W ⟨hk,K,N,D,E⟩;dsimp only at hk K N D E;obtain ⟨A1,ah,a8,a9,_⟩:=N.1.form;subst a8;have J:m.length=(upTo (vE l r lab) k).length:=by rw [<-E,List.length_map]
 have aa:=a7.below K;have c: ∀ {z:List Ev},SrtE z->(∀e∈z,e∈xH l r)->z.length<=26000000000:=λ{z} O ha=>by
  have M:=dY (l:=z.map ja) (k:=(xH l r).map ja) (List.nodup_iff_pairwise_ne.2 (List.pairwise_map.2 (O.imp λ{a b} M e=>by
   have:=tY e;subst this;exact lz M))) (λy hy=>by
   obtain ⟨e,L,rfl⟩:=List.mem_map.1 hy;exact List.mem_map.2 ⟨e,ha e L,rfl⟩)
  simp at M;exact Nat.le_trans M (zG I)
 have am:m.length<=26000000000:=by
  rw [J];exact c (wy _ _) λe L=>vN (mem_folL.1 (mem_upTo.1 L).1)
 refine aB ?_;refine dC [2,7,8,9,22] rfl ?_;refine aK rfl (λab=> ?_) (λR=> ?_)
 .have S:k<4/\m.length<14:=by
   simp at ab;omega
  refine aB ?_;rw [show ((k:Int)+1)=((k+1:Nat):Int) by omega];refine aN rfl (J7 (n:=k+1) aa ((ht.below d).below K) ZJ ZJ) ?_;rintro y2 w2 ⟨U,ai,F,G,o,p⟩;have Z:=N.below U;have a0:F.map (·.1)=canon (wO (vE l r lab) (k+1)):=sN o λe=>by
   rw [p];unfold wO;rw [List.mem_filter,mem_folL];simp
  have aj:F.length<=26000000000:=by
   have:=c o λe L=>vN ((p e).1 L).1;simpa using this
  obtain ⟨Y,ak,hy,_,_,H⟩:=G.1.form;subst hy;refine aT (F.flatMap λq=>l8 q.1 q.2) rfl rfl AL rfl Z.1 rfl G.1.1 (λj u hj=> ?_) (DC G) ZJ ZJ ?_
  .obtain ⟨g,M,_,h3,_⟩:=H j u hj;exact ⟨_,M,by rw [dQ]; exact h3⟩
  rintro v3 w3 ac a1 a2;have an:=K.size;have ad:=EvRow.app (Nat.le_trans d.size K.size) Z G (λg C=>N.1.lt C) ac a1 a2;have t:=K.step U;refine aB ?_;refine bH (k+1,v3,m++F) [2,7,8,9] rfl ⟨ZJ,t.grown a1 t.size D,ad,λg C=> ?_,?_⟩ ZJ
  .rcases a2 with h|h
   .exact D g (by rw [<-h]; exact C)
   .rw [h] at C; cases C; exact t.size
  .rw [List.map_append,E,a0,yJ]
 .have S:k=4\/14<=m.length:=by
   simp at R;omega
  refine aB ?_;refine aM xK rfl ⟨ct,ct,trivial⟩ (λ_=>trivial) ?_;refine aM lL rfl ⟨ct,ct,trivial⟩ (λ_=>by (try dsimp only); omega) ?_;refine aB ?_;refine aO rfl ⟨d.step K,?_⟩;have O:=KI N (λg C=>Nat.le_trans d.size (D g C)) ZJ;have ae:m.length=(m.map (·.1)).length:=ZM;have a3:=Er O (i:=min m.length 14) (by rw [<-ae]; omega);rw [show (min (m.length:Int) 14).toNat=min m.length 14 by omega];have L:(m.map (·.1)).take (min m.length 14)=bO l r lab:=by
   unfold bO;rw [<-EP Nf,E];rcases S with rfl|ao
   .rw [J];rcases Nat.le_total 14 (upTo (vE l r lab) 4).length with h|h
    .rw [Nat.min_eq_right h]
    .rw [Nat.min_eq_left h,List.take_length,List.take_of_length_le h]
   .obtain ⟨s,O⟩:=La (vE l r lab) hk;rw [O,Lf ZJ,show min m.length 14=14 by omega]
  rw [L] at a3;exact a3
end
end Go.Proofs.YtoleahhfkpkcjaaGreatDoor
namespace Go.Ord
open Go.PF
section
variable {d:bG}
def iJ (F:List Nat) (k c:Nat):List Nat:=(List.range c).filter λi=> !k.testBit i&&decide (qp (F.getD i 0) k=0)
noncomputable def freeAt (d:bG) (us:List U) (s:St) (i:Nat):Bool:=dec (∃u,us[i]?=some u/\Free d s u)
noncomputable def D6 (d:bG) (us:List U) (s:St) (l:List Nat):List Nat:=match l.find? (freeAt d us s) with
 | some i=> [i]
 | none=>l
def Cho (d:bG) (us:List U) (F:List Nat) (k:Nat) (s:St) (L:List Nat):Prop :=
 ((∃(i:Nat) (u:U),us[i]?=some u/\k.testBit i=false/\ ¬kH d s u)/\L= []) \/
 ((∀(i:Nat) (u:U),us[i]?=some u->k.testBit i=false->kH d s u)/\L=D6 d us s (iJ F k us.length))
theorem qR (F:List Nat) (k c:Nat):iJ F k (c+1)=iJ F k c++if (!k.testBit c&&decide (qp (F.getD c 0) k=0))=true then [c] else []:=by
 unfold iJ;rw [List.range_succ,List.filter_append]
 congr 1
 by_cases h:(!k.testBit c&&decide (qp (F.getD c 0) k=0))=true
 .rw [if_pos h];simp only [List.filter,h]
 .rw [if_neg h];have a:(!k.testBit c&&decide (qp (F.getD c 0) k=0))=false:=by simpa using h
  simp only [List.filter,a]
theorem mem_lstTo {F:List Nat} {c:Nat}:i∈iJ F k c↔i<c/\k.testBit i=false/\qp (F.getD i 0) k=0:=by
 unfold iJ;simp
theorem Cho.mem {F:List Nat} {L:List Nat} (h:Cho d us F k s L) (a:i∈L): ∃u,us[i]?=some u/\k.testBit i=false/\kH d s u:=by
 rcases h with ⟨_,rfl⟩|⟨e,rfl⟩
 .cases a
 .have f:i∈iJ F k us.length:=by
   unfold D6 at a
   split at a
   .rename_i y g;rw [List.mem_singleton] at a;subst a;exact List.mem_of_find?_eq_some g
   .exact a
  obtain ⟨b,c,_⟩:=mem_lstTo.1 f;exact ⟨us[i],ZD b,c,e i _ (ZD b) c⟩
def Way (d:bG) (us:List U) (k:Nat) (s:St) (c:Nat):Prop:= ∃T:List U,T.length=c/\Run d (none,0) T/\fin d (none,0) T=s/\(T++left us k).Perm us
theorem Way.zero (us:List U):Way d us 0 (none,0) 0:=⟨[],rfl,trivial,rfl,by rw [uo]; exact List.Perm.refl _⟩
theorem Way.step {c:Nat} {u:U} (h:Way d us k s c) (g:us[i]?=some u) (j:k.testBit i=false) (l:kH d s u):Way d us (k ||| 1 <<< i) (nxt d s u) (c+1):=by
 obtain ⟨T,b,e,a,f⟩:=h;refine ⟨T++ [u],by simp [b],?_,?_,?_⟩
 .rw [Run.append,a]; exact ⟨e,l,trivial⟩
 .rw [Ga,a]; rfl
 .rw [List.append_assoc];exact (List.Perm.append_left T (kS j g).symm).trans f
theorem Way.feas (h:Way d us k s us.length):Feas d (none,0) us:=by
 obtain ⟨T,b,c,g,a⟩:=h;have e:=a.length_eq;rw [List.length_append,b] at e;have f:left us k= []:=List.eq_nil_of_length_eq_zero ZJ;rw [f,List.append_nil] at a;exact ⟨T,a,c⟩
theorem Way.sok {c:Nat} (g: ∀u∈us,UOK d u) (h:Way d us k s c):yf d s:=by
 obtain ⟨T,i,j,a,b⟩:=h;rw [<-a];refine He (λx e=>by cases e) λu f=>g u (b.mem_iff.1 (List.mem_append_left _ f))
end
end Go.Ord
