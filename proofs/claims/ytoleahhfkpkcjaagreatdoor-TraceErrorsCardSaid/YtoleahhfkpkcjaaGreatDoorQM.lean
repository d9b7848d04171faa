/- Texts of this claim,joined. -/
import Derived.Test.YtoleahhfkpkcjaaGreatDoorQL
import Derived.Lib.RowBridge
set_option linter.unusedSimpArgs false
set_option linter.unusedVariables false
set_option maxRecDepth 100000
set_option maxHeartbeats 4000000
variable {l:List Go.Ord.Ev} {w:Go.World} {F:Nat->Prop} {d:Go.Ord.bD} {v dv lv:Go.Value} {S zs:List Int} {most t:Int} {lab:ByteArray} {k:Go.FuncId} {q:List Int->Bool} {caps cap:List Go.Value} {r:List Go.Ord.Rc} {p:List Go.Ord.Ev->Bool} {ws:List (List Int)} {L:List (List Go.Ord.Ev)} {i n g:Nat} {φ:Nat->Nat}
namespace Go.Proofs.YtoleahhfkpkcjaaGreatDoor
open Go.Proofs.Tryz
open Go.PF Go.RowKit Go.Ord
attribute [local irreducible] TW CW KW DW
theorem je (l:List Int): ∀u∈l.map (Value.int .i64),u.oneCell'=true:=by
 intro u b;rw [List.mem_map] at b;obtain ⟨a,_,rfl⟩:=b;rfl
theorem _root_.Go.PF.SL.allI {l:List Int} (h:SL aT F w v l): ∀x∈l,fE x:=λx b=>by
 obtain ⟨j,c,a⟩:=List.getElem_of_mem b;exact h.rngI (by rw [<-a]; exact ZD c)
theorem Bz {n:Int}: ∀ {l:List Int} {k:Nat},k<=l.length->Upto (· <n) l k->(∀x,l[k]?=some x-> ¬x<n)->insS n l=if l[k]?=some n then l else l.take k++n::l.drop k
 | [],k,a,_,_=>by
  simp [insS]
 | y::l,0,_,_,h=>by
  have b:=h y rfl;simp only [insS,if_neg b];by_cases e:y=n
  .simp
  .simp
 | y::l,k+1,a,d,h=>by
  have b:=d 0 y ZJ rfl;have f:=Bz (by simpa using a) (λi x g c=>d (i+1) x ZJ (by simpa using c)) (λx c=>h x (by simpa using c));simp only [insS,if_pos b,f,List.getElem?_cons_succ,List.drop_succ_cons]
  split<;>simp
theorem D5 (n:Int): ∀l:List Int,(insS n l).length<=l.length+1
 | []=>by simp [insS]
 | y::l=>by
  have:=D5 n l;unfold insS
  split
  .simp; omega
  .split<;>simp
theorem JQ {l:List Int} {n:Int} (hl:SL aT F w v l) (hn:l.length<=1000000) (R:fE n):Gives prog 103 #[v,ZU n] w λu w'=>ZT w w'/\SL aT (λk=>F k\/w.heap.size<=k) w' u (insS n l):=by
 obtain ⟨A,z,rfl,a0⟩:=hl.form;have S:=hl.allI;refine gv func103 ntmps103 ?_;refine aB ?_;refine dC [0,1] (λk:Nat=> [(5,none,ZU (k:Int))])
  (λk W=>k<=l.length/\W=w/\Upto (· <n) l k) (λk=>l.length-k) 0 ⟨ZJ,rfl,Upto.zero⟩ ?_
 rintro k W ⟨hk,rfl,D⟩;by_cases U:k<l.length
 .obtain ⟨x,i,_⟩:=eT U;obtain ⟨q,rfl⟩:=hl.addr ZJ;refine aB ?_;refine aH rfl (hl.getI i) ?_;refine aB ?_;refine aK rfl (λB=> ?_) (λC=> ?_)
  .simp only [Bool.and_eq_true,decide_eq_true_eq] at B;refine aB ?_;refine dB (k+1) ⟨ZJ,rfl,D.succ i B.2⟩
  .have Y: ¬x<n:=by simp at C; omega
   have o:=Bz hk D (λy p=>by rw [i] at p; cases p; exact Y);refine aB ?_;refine aH rfl (hl.getI i) ?_;refine aB ?_;refine aK rfl (λE=> ?_) (λM=> ?_)
   .have G:x=n:=by simp at E; omega
    rw [o,if_pos (by rw [i,G])];refine aB ?_;refine aO rfl ⟨ZA,hl.wider λ_ h=> .inl h⟩
   .have G: ¬x=n:=by simp at M; omega
    rw [o,if_neg (by rw [i]; simpa using G)];refine aB ?_;refine yS mixed ZK ?_;refine iK 3 rfl rfl kN ?_;refine jR ?_;refine bR lV rfl ⟨ct,ct,trivial⟩ (λ_=>by (try dsimp only); omega) ?_;have H: ∀(j:Nat) (u:Value),((l.take k).map (Value.int .i64))[j]?=some u-> ∃c:Addr,some q=some c/\W.cell? (c.add j)=some u:=by
     intro j u d;simp only [List.getElem?_map,List.getElem?_take] at d;by_cases N:j<k
     .rw [if_pos N] at d;obtain ⟨y,p,rfl⟩:=Option.map_eq_some_iff.1 d;obtain ⟨q,I,r,_⟩:=hl.int p;exact ⟨q,I,by rw [Nat.mul_one] at r; exact r⟩
     .rw [if_neg N] at d; simp at d
    refine iO (m:=k) (A:=some q) ((l.take k).map (Value.int .i64)) rfl rfl jH rfl ZK rfl ct H ZO (je _) ZJ ZJ ?_;refine jR ?_;refine gD 3 _ rfl rfl rfl kN (bO rfl ct dE) rfl rfl rfl rfl rfl ?_;refine kC [ZU n] rfl rfl jH rfl ZK rfl ct (λu d=>by simp at d; subst d; rfl) ZJ ZJ rfl ?_;refine jR ?_;refine bR nz rfl ⟨ct,ct,trivial⟩ (λ_=>by (try dsimp only); omega) ?_;have J: ∀(j:Nat) (u:Value),((l.drop k).map (Value.int .i64))[j]?=some u-> ∃c:Addr,(if z=k then some q else (some q).map (λa:Addr=>a.add (k*1)))=some c/\W.cell? (c.add j)=some u:=by
     intro j u d;simp only [List.getElem?_map,List.getElem?_drop] at d;obtain ⟨y,p,rfl⟩:=Option.map_eq_some_iff.1 d;obtain ⟨q,I,r,_⟩:=hl.int p;have Z:=(ZE p).1;refine ⟨q.add (k*1),by rw [if_neg ZJ,I]; rfl,?_⟩;rw [Addr.add_add];rw [Nat.mul_one] at r ⊢;exact r
    refine iO (m:=l.length-k) (A:=if z=k then some q else (some q).map (λa:Addr=>a.add (k*1))) ((l.drop k).map (Value.int .i64)) rfl rfl jH rfl ZK rfl ct J ZM (je _) ZJ ZJ ?_;refine uZ rfl rfl rfl ct (iw _ _ _ _ _) ZK ?_;refine gZ (qA [4] rfl λvs w2 K L=>aN ?_);obtain ⟨O,rfl,h4⟩:=Sats.one L;refine rX ?_;have s:OwnS w2 3 1 O (0+k+1+(l.length-k)) (([]++(l.take k).map (Value.int .i64)++ [ZU n])++(l.drop k).map (Value.int .i64))/\ ∀g,O.ownBlock=some g->W.heap.size<=g:=h4;refine aO rfl ⟨K,?_⟩;have e2:(l.take k++n::l.drop k).length=0+k+1+(l.length-k):=ZO;refine dU (e:=3) ?_ ?_ (λg hg=> .inr (s.2 g hg)) ZJ
    .rw [e2];simpa using s.1
    .intro x i;rw [List.mem_append,List.mem_cons] at i;rcases i with i|rfl|i
     .exact S x (List.mem_of_mem_take i)
     .exact R
     .exact S x (List.mem_of_mem_drop i)
 .have b:k=l.length:=ZJ;have t:l[k]?=none:=List.getElem?_eq_none ZJ;have o:=Bz hk D (λy p=>by rw [t] at p; cases p);rw [t,if_neg ZM] at o;rw [o];refine gG (gG (dO ?_));refine aP cO rfl ⟨ct,trivial⟩ (λ_=>trivial) ?_;refine aP cO rfl ⟨ct,trivial⟩ (λ_=>trivial) ?_;refine aP V.lenSlice rfl ⟨ct,trivial⟩ (λ_=>trivial) ?_;refine aP vU rfl ⟨ct,ct,trivial⟩ (λ_=>trivial) ?_;refine aP cO rfl ⟨ct,trivial⟩ (λ_=>trivial) ?_;refine bM (.bool false) rfl (by simp [aF,b]) rfl ?_;refine bM (.bool false) rfl (by simp [aF,b]) rfl ?_;refine bM (.bool false) rfl (by simp [aF,b]) rfl ?_;refine bM (.bool false) rfl (by simp [aF,b]) rfl ?_;refine bM (.bool false) rfl (by simp [aF,b]) rfl ?_;refine bM (.bool false) rfl (by simp [aF,b]) rfl ?_;refine aB ?_;refine dF [0,1,5,17] rfl ?_;refine aK rfl (λB=> ?_) (λC=> ?_)
  .exfalso; simp [b] at B
  refine qF (jg (jg (lC (aN (gG (gG (dO ?_)))))));refine aP cO rfl ⟨ct,trivial⟩ (λ_=>trivial) ?_;refine aP cO rfl ⟨ct,trivial⟩ (λ_=>trivial) ?_;refine aP V.lenSlice rfl ⟨ct,trivial⟩ (λ_=>trivial) ?_;refine aP vU rfl ⟨ct,ct,trivial⟩ (λ_=>trivial) ?_;refine aP cO rfl ⟨ct,trivial⟩ (λ_=>trivial) ?_;refine bM (.bool false) rfl (by simp [aF,b]) rfl ?_;refine bM (.bool false) rfl (by simp [aF,b]) rfl ?_;refine bM (.bool false) rfl (by simp [aF,b]) rfl ?_;refine bM (.bool false) rfl (by simp [aF,b]) rfl ?_;refine bM (.bool false) rfl (by simp [aF,b]) rfl ?_;refine bM (.bool false) rfl (by simp [aF,b]) rfl ?_;refine aB ?_;refine dF [0,1,5,31] rfl ?_;refine aK rfl (λE=> ?_) (λM=> ?_)
  .exfalso; simp [b] at E
  refine aB ?_;refine yS mixed ZK ?_;refine iK 3 rfl rfl kN ?_;refine jR ?_;refine bR lV rfl ⟨ct,ct,trivial⟩ (λ_=>by (try dsimp only); omega) ?_;have H: ∀(j:Nat) (u:Value),((l.take k).map (Value.int .i64))[j]?=some u-> ∃c:Addr,A=some c/\W.cell? (c.add j)=some u:=by
   intro j u d;simp only [List.getElem?_map,List.getElem?_take] at d;by_cases N:j<k
   .rw [if_pos N] at d;obtain ⟨y,p,rfl⟩:=Option.map_eq_some_iff.1 d;obtain ⟨q,I,r,_⟩:=hl.int p;exact ⟨q,I,by rw [Nat.mul_one] at r; exact r⟩
   .rw [if_neg N] at d; simp at d
  refine iO (m:=k) (A:=A) ((l.take k).map (Value.int .i64)) rfl rfl jH rfl ZK rfl ct H ZO (je _) ZJ ZJ ?_;refine jR ?_;refine gD 3 _ rfl rfl rfl kN (bO rfl ct dE) rfl rfl rfl rfl rfl ?_;refine kC [ZU n] rfl rfl jH rfl ZK rfl ct (λu d=>by simp at d; subst d; rfl) ZJ ZJ rfl ?_;refine jR ?_;refine bR nz rfl ⟨ct,ct,trivial⟩ (λ_=>by (try dsimp only); omega) ?_;have J: ∀(j:Nat) (u:Value),((l.drop k).map (Value.int .i64))[j]?=some u-> ∃c:Addr,(if z=k then A else (A).map (λa:Addr=>a.add (k*1)))=some c/\W.cell? (c.add j)=some u:=by
   intro j u d;simp only [List.getElem?_map,List.getElem?_drop] at d;obtain ⟨y,p,rfl⟩:=Option.map_eq_some_iff.1 d;obtain ⟨q,I,r,_⟩:=hl.int p;have Z:=(ZE p).1;refine ⟨q.add (k*1),by rw [if_neg ZJ,I]; rfl,?_⟩;rw [Addr.add_add];rw [Nat.mul_one] at r ⊢;exact r
  refine iO (m:=l.length-k) (A:=if z=k then A else (A).map (λa:Addr=>a.add (k*1))) ((l.drop k).map (Value.int .i64)) rfl rfl jH rfl ZK rfl ct J ZM (je _) ZJ ZJ ?_;refine uZ rfl rfl rfl ct (iw _ _ _ _ _) ZK ?_;refine gZ (qA [4] rfl λvs w2 K L=>aN ?_);obtain ⟨O,rfl,h4⟩:=Sats.one L;refine rX ?_;have s:OwnS w2 3 1 O (0+k+1+(l.length-k)) (([]++(l.take k).map (Value.int .i64)++ [ZU n])++(l.drop k).map (Value.int .i64))/\ ∀g,O.ownBlock=some g->W.heap.size<=g:=h4;refine aO rfl ⟨K,?_⟩;have e2:(l.take k++n::l.drop k).length=0+k+1+(l.length-k):=ZO;refine dU (e:=3) ?_ ?_ (λg hg=> .inr (s.2 g hg)) ZJ
  .rw [e2];simpa using s.1
  .intro x i;rw [List.mem_append,List.mem_cons] at i;rcases i with i|rfl|i
   .exact S x (List.mem_of_mem_take i)
   .exact R
   .exact S x (List.mem_of_mem_drop i)
theorem FU (hl:SL evT F w v l) (J:l.length<=1000) (r: ∀e∈l,e.needs.length<=1000):Gives prog 46 #[v] w λu s=>ZT w s/\SL aT (λk=>w.heap.size<=k) s u (aQ l):=by
 refine gw func46 ntmps46 ?_;refine bQ 3 rfl rfl kN λB K L=>rn ?_;have t:=hl.bnd;refine zR w [0] 4 l.length (λb:Value=> [(3,none,b)]) (λi b W=>SL aT (λk=>w.heap.size<=k) W b (aQ (l.take i))/\(aQ (l.take i)).length<=i*1000) (.slice (some ⟨B,0,none⟩) 0 0) ⟨⟨_,_,rfl,ZC,by simp [aQ,cK,insAll],λi x n=>by simp [aQ,cK,insAll] at n⟩,by simp [aQ,cK,insAll]⟩ (λi b W z o a=> ?_) λb W o a=> ?_
 .have n:=ZD z;obtain ⟨X,c,⟨_,_,_,C⟩,M⟩:=KO hl o n;have D:=r _ (List.getElem_mem z);have g:aQ (l.take (i+1))=insAll (aQ (l.take i)) l[i].needs:=by
   rw [ZG,n];unfold aQ cK insAll;rw [List.flatMap_append,List.foldl_append];simp
  refine zR W [0,4] 5 l[i].needs.length (λd:Value=> [(3,none,d)]) (λj d p=>SL aT (λk=>w.heap.size<=k) p d (insAll (aQ (l.take i)) (l[i].needs.take j))/\(insAll (aQ (l.take i)) (l[i].needs.take j)).length<=i*1000+j) b a (λj d p E m a=> ?_) λd p m a=> ?_
  .have A:=ZD E;refine rn ?_;refine cr rfl (JQ a.1 ZJ (C.rngI A)) λy N O G=> ?_;refine oI y ?_;have H:insAll (aQ (l.take i)) (l[i].needs.take (j+1))=insS l[i].needs[j] (insAll (aQ (l.take i)) (l[i].needs.take j)):=by
    rw [ZG,A];unfold insAll;rw [List.foldl_append];simp
   have R:=D5 l[i].needs[j] (insAll (aQ (l.take i)) (l[i].needs.take j));have S:=(o.step m).size;rw [H];exact ⟨G.wider λq I=>by rcases I with h|h<;>omega,ZJ⟩
  .rw [List.take_length] at a;refine oI d ?_;rw [g];exact ⟨a.1,ZJ⟩
 .rw [List.take_length] at a;exact aO rfl ⟨bP,a.1⟩
def wH (L:List (List Int)) (w:World) (pre:List (Value×List Int)) (x:Value×List Int) (M:Nat->Prop) (W:World):Prop:=(∃suf,L=pre.map (·.2)++x.2::suf)/\SL aT (λk=>w.heap.size<=k/\ ¬M k) W x.1 x.2
theorem Dy (l:List Int) (m:Nat):(gU l m).length<=l.length:=(sW l m).length_le
theorem Q0 {A:Option Addr} {c:Nat}:Gives prog 87 #[.slice A n c] w λu b=>ZT w b/\ ∃g,u= .func (.func 169) #[] [.pointer (some ⟨g,0,none⟩)].toArray/\Blk b g 66 [.slice A n c]/\w.heap.size<=g:=by
 refine gv func87 ntmps87 ?_;refine aB ?_;refine bY rfl rfl rfl rfl ?_;rintro d e a;refine aB ?_;refine dS rfl rfl (aA rfl ct aJ) ?_;refine aB ?_;refine aO rfl ⟨a.below,d,rfl,a.blk,by have:=a.at_; omega⟩
theorem GZ {g1:Nat} {l:List Int} (hl:SL aT F w v l) (hF: ∀k,F k->k<w.heap.size) (a5:l.length<=14) (a6:Blk w g1 66 [v]) :
  AJ prog 169 [.pointer (some ⟨g1,0,none⟩)] (λx:Value×List Int=> [x.1]) (wH (oH l) w) (λxs=>xs.map (·.2)=oH l) (λk=>k=g1\/F k) w:=by
 intro yl J Jx W M B ao ap hM I hJ aq hy h0;obtain ⟨A,K,rfl,_⟩:=hl.form;have a7:=hl.allI;have L: ∀s:World,(∀k,(k=g1\/F k)->k<w.heap.size->s.heap[k]?=w.heap[k]?)->Blk s g1 66 [.slice A l.length K]/\SL aT F s (.slice A l.length K) l:=λs h =>
  ⟨(h g1 (.inl rfl) a6.lt).trans a6,hl.mono (Kept.of_blocks λk d a=>h k (.inr d) a)⟩
 obtain ⟨m1,m3⟩:=L W B;obtain ⟨p,N⟩: ∃p,p=2 ^ l.length:=⟨_,rfl⟩;have ar:0<p:=by rw [N]; exact Nat.two_pow_pos _
 have ai:p<=16384:=by rw [N]; exact Nat.pow_le_pow_right ZL a5
 refine gv func169 ntmps169 ?_;refine aB ?_;refine aH rfl (m1.cell 0) ?_;refine aP V.lenSlice rfl ⟨ct,trivial⟩ (λ_=>trivial) ?_;refine aP Rt rfl ⟨ct,ct,trivial⟩ (λ_=>ZJ) ?_;refine aB ?_;refine aH rfl (m1.cell 0) ?_;refine aB ?_;rw [<-N];refine cB (λx:Nat×List (Value×List Int)×(Nat->Prop)=> [(0,none,.func (.yield yl) #[] #[]),(1,none,.pointer (some ⟨g1,0,none⟩)),(3,none,ZU (p:Int)),(12,none,ZU ((l.length:Int)+1)),(13,none,ZU (x.1:Int))])
  (λx s=>x.1<=l.length+1/\J x.2.1 x.2.2 s/\x.2.1.map (·.2)=((List.range x.1).flatMap λk=>bZ l k)/\W.heap.size<=s.heap.size/\(∀k,x.2.2 k->k<s.heap.size)/\ ∀k,(k=g1\/F k)->k<w.heap.size->s.heap[k]?=w.heap[k]?/\ ¬x.2.2 k) (λx=>l.length+1-x.1) (0,[],M) [0,1,3,12,13]
  ⟨ZB,h0,rfl,ZC,I,λk d a=>⟨B k d a,(hM k d).1⟩⟩ rfl ?_
 rintro ⟨k,c,t⟩ W1 ⟨d,C,b,u,r,o⟩;dsimp only at d C b r o;refine aB ?_;refine aI rfl (λa=> ?_) (λau=> ?_)
 .refine aB ?_;refine cB (λx:Nat×List (Value×List Int)×(Nat->Prop)=> [(0,none,.func (.yield yl) #[] #[]),(1,none,.pointer (some ⟨g1,0,none⟩)),(3,none,ZU (p:Int)),(4,none,ZU (k:Int)),(12,none,ZU ((l.length:Int)+1)),(13,none,ZU (k:Int)),(16,none,ZU (p:Int)),(17,none,ZU (x.1:Int))])
   (λx s=>x.1<=p/\J x.2.1 x.2.2 s/\x.2.1.map (·.2)=kU l k x.1/\W.heap.size<=s.heap.size/\(∀k,x.2.2 k->k<s.heap.size)/\ ∀k,(k=g1\/F k)->k<w.heap.size->s.heap[k]?=w.heap[k]?/\ ¬x.2.2 k) (λx=>p-x.1) (0,c,t) [0,1,3,4,12,13,16,17]
   ⟨ZB,C,by rw [FK]; exact b,u,r,o⟩ rfl ?_
  rintro ⟨i,c,t⟩ W1 ⟨hi,C,b,u,r,o⟩;dsimp only at hi C b r o;obtain ⟨n1,n3⟩:=L W1 (λk d a=>(o k d a).1);refine aB ?_;refine aI rfl (λaj=> ?_) (λak=> ?_)
  .have D:IntKind.u64.wrap ((p:Int)-1-(i:Int))=((p-1-i:Nat):Int):=by rw [IntKind.wrap_u64]; omega
   have j:kU l k (i+1)=kU l k i++if pc (p-1-i)==k then [gU l (p-1-i)] else []:=by
    rw [N];exact FL l k ZJ
   skip
   refine ou (aN (gG (uC (gG (dO ?_)))));refine aP cO rfl ⟨ct,trivial⟩ (λ_=>trivial) ?_;refine aP fG rfl ⟨ct,trivial⟩ (λ_=>trivial) ?_;refine dK (bE [0,1,3,4,5,12,13,16,17] [(0,_,_),(1,_,_),(3,_,_),(4,_,_),(5,_,_),(12,_,_),(13,_,_),(16,_,_),(17,_,_)] rfl (aN ?_));refine gG (dO ?_);refine aP cO rfl ⟨ct,trivial⟩ (λ_=>trivial) ?_;refine aP vS rfl ⟨ct,ct,trivial⟩ (λ_=>by (try dsimp only); omega) ?_;refine aP cO rfl ⟨ct,trivial⟩ (λ_=>trivial) ?_;refine aP vS rfl ⟨ct,ct,trivial⟩ (λ_=>by (try dsimp only); omega) ?_;refine aP (uX rfl) rfl ⟨ct,trivial⟩ (λ_=>trivial) ?_;rw [D];refine aB ?_;refine aM rfl (Tv (x:=p-1-i) ZJ) ?_;rintro y w2 ⟨O,rfl⟩;refine aP cO rfl ⟨ct,trivial⟩ (λ_=>trivial) ?_;refine aP EZ rfl ⟨ct,ct,trivial⟩ (λ_=>trivial) ?_;refine aP cO rfl ⟨ct,trivial⟩ (λ_=>trivial) ?_;have av:=O.size;have a8:J c t w2:=hJ _ _ _ _ C (.of_below O);have a9: ∀k,(k=g1\/F k)->k<w.heap.size->w2.heap[k]?=w.heap[k]?/\ ¬t k:=λk d a=>⟨(O.block k ZJ).trans (o k d a).1,(o k d a).2⟩;by_cases n:pc (p-1-i)=k
   .rw [if_pos (by simp [n])] at j;refine aL rfl (by simp only [aF]; exact decide_eq_true ZJ) ?_;refine aB ?_;refine aL rfl (by simp only [aF]; exact decide_eq_true ZJ) ?_;refine aH rfl ((n1.next O).cell 0) ?_;refine aL rfl (by simp only [aF]; exact decide_eq_true ZJ) ?_;refine aB ?_;refine aL rfl (by simp only [aF]; exact decide_eq_true ZJ) ?_;refine aM rfl (Kn (m:=p-1-i)) ?_;rintro y w3 ⟨c3,aw,ax,rfl,R,S⟩;have z:=O.step c3;have aa:=n3.below z;refine aL rfl (by simp only [aF]; exact decide_eq_true ZJ) ?_;refine aM rfl (Ag (Bg aa a5 ZJ R S) VP (λq hq=>by rcases hq with rfl|rfl|hq; exact R.lt; exact S.lt; have:=hF q hq; have:=z.size; omega) (λal x ⟨U,e⟩=>by have h1:=congrArg List.length e; have h2:=Dy l (p-1-i); simp at h1; omega)) ?_;rintro cv Y ⟨c4,xs,ab,hO,Z⟩;subst ab;have E:=z.step c4;have am:=E.size;have an:=z.size;have ay:=Dy l (p-1-i);have ac:SL aT (λq=>w.heap.size<=q/\ ¬t q) Y cv (gU l (p-1-i)):=dU hO (λx hx=>a7 x ((sW _ _).subset hx)) (λg hg=>⟨by have:=Z g hg; omega,λh=>by have:=r g h; have:=Z g hg; omega⟩) ZJ;have ad:J c t Y:=hJ _ _ _ _ C (.of_below E);have G: ∀k,(k=g1\/F k)->k<w.heap.size->Y.heap[k]?=w.heap[k]?/\ ¬t k:=λk d a=>⟨(E.block k ZJ).trans (o k d a).1,(o k d a).2⟩
    have a0:wH (oH l) w c (cv,gU l (p-1-i)) t Y:=by
     refine ⟨?_,ac⟩;obtain ⟨U,a1⟩:=JH l (k:=k) (i:=i+1) ZJ;exact ⟨U,by rw [a1,j,<-b]; simp⟩
    refine aL rfl (by simp only [aF]; exact decide_eq_true ZJ) ?_;refine kQ rfl rfl rfl (aA rfl ct aJ) (hy c (cv,gU l (p-1-i)) t Y ad a0 (λk d=>by have:=r k d; omega) ZJ) ?_;rintro yb W5 hR;refine aL rfl (by simp only [aF]; exact decide_eq_true ZJ) ?_;refine aB ?_;refine dF [0,1,3,4,5,6,12,13,16,17,37] rfl ?_;refine aK rfl (λH=> ?_) (λa2=> ?_)
    .refine aB ?_;refine C4 results169 (.inr ?_);obtain ⟨M',ae⟩:=hR.no (by simpa [n] using H);exact ⟨_,M',ae⟩
    .refine aB ?_;obtain ⟨M',af,a3⟩:=hR.yes (by simpa [n] using a2);have az:=hR.size;refine bJ (i+1,c++ [(cv,gU l (p-1-i))],M') [0,1,3,4,12,13,16,17] rfl ⟨by show i+1<=p; omega,af,?_,by show W.heap.size<=W5.heap.size; omega,λk d=>(a3 k d).2,λk d a=>⟨(hR.kept k ZJ (G k d a).2 (hM k d).2).trans (G k d a).1,λh=> ?_⟩⟩ (by show p-(i+1)<p-i; omega)
     .show List.map Prod.snd (c++ [_])=kU l k (i+1);rw [List.map_append,b,j];rfl
     .rcases (a3 k h).1 with h|h
      .exact (G k d a).2 h
      .omega
   .rw [if_neg (by simp [n]),List.append_nil] at j;refine bM (.bool false) rfl (by simp only [aF]; exact λh=>n (by have:=of_decide_eq_true h; omega)) rfl ?_;refine bM (.bool false) rfl (by simp only [aF]; exact λh=>n (by have:=of_decide_eq_true h; omega)) rfl ?_;refine bM (.bool false) rfl (by simp only [aF]; exact λh=>n (by have:=of_decide_eq_true h; omega)) rfl ?_;refine bM (.bool false) rfl (by simp only [aF]; exact λh=>n (by have:=of_decide_eq_true h; omega)) rfl ?_;refine bM (.bool false) rfl (by simp only [aF]; exact λh=>n (by have:=of_decide_eq_true h; omega)) rfl ?_;refine bM (.bool false) rfl (by simp only [aF]; exact λh=>n (by have:=of_decide_eq_true h; omega)) rfl ?_;refine bM (.bool false) rfl (by simp only [aF]; exact λh=>n (by have:=of_decide_eq_true h; omega)) rfl ?_;refine aB ?_;refine aK rfl (λH=> ?_) (λa2=> ?_)
    .exfalso;have a4: ¬((pc (p-1-i):Int)=(k:Int)):=ZJ;simp [a4] at H
    .refine aB ?_;refine bJ (i+1,c,t) [0,1,3,4,12,13,16,17] rfl ⟨by show i+1<=p; omega,a8,by show c.map (·.2)=kU l k (i+1); rw [j]; exact b,by show W.heap.size<=w2.heap.size; omega,λk d=>by have:=r k d; show k<w2.heap.size; omega,a9⟩ (by show p-(i+1)<p-i; omega)
  .have ag:i=p:=ZJ;refine aB ?_;refine bJ (k+1,c,t) [0,1,3,12,13] rfl ⟨by show k+1<=l.length+1; omega,C,?_,u,r,o⟩ (by show l.length+1-(k+1)<l.length+1-k; omega);show c.map (·.2)=((List.range (k+1)).flatMap λk=>bZ l k);rw [b,ag,N,zI]
 .have ah:k=l.length+1:=ZJ;subst ah;refine aB ?_;refine pq results169 (.inl ⟨c,t,b,C⟩)
end Go.Proofs.YtoleahhfkpkcjaaGreatDoor
namespace Go.PF
open Go.RowKit
theorem MF {P:Program} {N:Nat} {fn:Func} {E:Env} {R:Value->World->Prop} {D s s':Nat} {t t':TypeId} {g':Nat} {v':Value} (d:fn.results= #[.cell s t,.cell s' t']) (h1:one P t=true) (j:one P t'=true) (hs:look E s=some (none,.pointer (some ⟨g,0,none⟩))) (k:look E s'=some (none,.pointer (some ⟨g',0,none⟩)))
  (f:Blk w g t [v]) (b:Blk w g' t' [v']) (l:w.heap[D]?=some (.deferred (some []))) (r:R (.tuple #[v,v']) (w.putObj D (.deferred none))) :
  KW N ({target:= .collected D,args:= #[]}:: []) (bodyPostM (FR none) 0 P fn (λe p=> ∃v,e= .returned v/\R v p) .ret) E w:=by
 refine Tm (λa W m n=> ?_) l r .ret (.inl rfl);have e:=(m.slots s none _ hs).1 trivial;have o:=(m.slots s' none _ k).1 trivial;have h:g≠D:=λe=>by subst e; unfold Blk at f; rw [l] at f; cases f
 have c:g'≠D:=λe=>by subst e; unfold Blk at b; rw [l] at b; cases b
 have q:W.cell? ⟨g,0,none⟩=some v:=by
  rw [n];have:Blk (w.putObj D (.deferred none)) g t [v]:=(World.putObj_heap_other h).trans f;exact this.cell 0
 have i:W.cell? ⟨g',0,none⟩=some v':=by
  rw [n];have:Blk (w.putObj D (.deferred none)) g' t' [v']:=(World.putObj_heap_other c).trans b;exact this.cell 0
 simp only [Array.getD_eq_getD_getElem?] at e o;simp [results,d,e,o,asAddr,nO h1 q,nO j i]
end Go.PF
namespace Go.Proofs.YtoleahhfkpkcjaaGreatDoor
open Go.Proofs.Tryz
open Go.PF Go.RowKit Go.Ord
attribute [local irreducible] TW CW KW DW
def Found (L:List (List Int)) (q:List Int->Bool) (v:Value) (ok:Bool) (W:World):Prop:=(∃S,L.find? q=some S/\ok=true/\SL aT (λk=>k<W.heap.size) W v S)\/(L.find? q=none/\ok=false)
theorem N7 {L pre suf:List (List Int)} (c:L=pre++S::suf) (a: ∀x∈pre,q x=false) (d:q S=true):L.find? q=some S:=by
 rw [c,List.find?_append];have:pre.find? q=none:=by rw [List.find?_eq_none]; intro x b; simp [a x b]
 rw [this];simp [d]
theorem QV {gf kq:FuncId} {qcap:List Value} {own:Nat->Prop} {L:List (List Int)} (az:AJ prog gf cap (λx:Value×List Int=> [x.1]) (wH L w) (λxs=>xs.map (·.2)=L) own w) (b0:enters prog gf=true) (E: ∀k,own k->k<w.heap.size) (b1:enters prog kq=true)
  (hq: ∀W' v S F,ZT w W'->SL aT F W' v S->Gives prog kq (v::qcap).toArray W' λu ay=>ZT W' ay/\u= .bool (q S)) :
  Gives prog 86 #[.func (.func gf) #[] cap.toArray,.func (.func kq) #[] qcap.toArray] w λu w'=>ZT w w'/\ ∃v ok,u= .tuple #[v,.bool ok]/\Found L q v ok w':=by
 refine TY func86 ntmps86 ?_;refine aB ?_;refine bY rfl rfl rfl rfl ?_;rintro g3 w1 f1;refine gM rfl rfl WX ?_;rintro b w2 f2;refine gM rfl rfl YK ?_;rintro d w3 f3;refine aB ?_;have b5:=f1.at_;have b6:=f2.at_;have b7:=f3.at_;have b8:=f1.size;have b9:=f2.size;have ba:=f3.size;have b3:=(f1.below.step f2.below).step f3.below;have B3:=(f1.blk.next f2.below).next f3.below;have B4:=f2.blk.next f3.below;have B5:=f3.blk;have ah:AJ prog gf cap (λx:Value×List Int=> [x.1]) (wH L w) (λxs=>xs.map (·.2)=L) own w3:=by
  intro l J Jx W M h1 h2;exact az l J Jx W M (λk I ai=>(h1 k I (Nat.lt_of_lt_of_le ai b3.size)).trans (b3.block k ai)) (Nat.le_trans b3.size h2)
 refine qD rfl b0 ah rfl (λ_=>rfl)
  (λr M W=>ZT w W/\w3.heap.size<=W.heap.size/\Blk W g3 137 [.func (.func kq) #[] qcap.toArray]/\Blk W b 66 [.slice none 0 0]/\Blk W d 4 [.bool false]/\(∀x∈r,q x.2=false)/\M=λk=>k=b\/k=d)
  (λc r M W=>c= .ret/\ZT w W/\w3.heap.size<=W.heap.size/\ ∃v S,Blk W b 66 [v]/\Blk W d 4 [.bool true]/\L.find? q=some S/\SL aT (λk=>w.heap.size<=k/\ ¬(k=b\/k=d)) W v S)
  (λk=>k=b\/k=d) ?_ ?_ ?_ ?_ ?_ ?_ ?_ ?_
 .rintro k (rfl|rfl)
  .exact ⟨ZJ,λh=>by have:=E _ h; omega⟩
  .exact ⟨ZJ,λh=>by have:=E _ h; omega⟩
 .intro k I;have:=E k I;omega
 .rintro r M Wa Wb ⟨a1,a2,a3,s,K,G,a7⟩ i;exact ⟨(i.less ZJ).below a1 ZC,Nat.le_trans a2 i.size,a3.ext i,s.ext i,K.ext i,G,a7⟩
 .rintro c r M Wa Wb ⟨a1,a2,a3,v,S,s,K,G,a7⟩ i;exact ⟨a1,(i.less ZJ).below a2 ZC,Nat.le_trans a3 i.size,v,S,s.ext i,K.ext i,G,a7.ext i⟩
 .exact ⟨b3,ZC,B3,B4,B5,λx i=>(by cases i),rfl⟩
 .rintro D Lp r x M W hD hL ⟨a1,a2,a3,s,K,G,rfl⟩ ⟨⟨bb,U⟩,aj⟩ b2 ab N ak;obtain ⟨xv,j⟩:=x;dsimp only at U aj;refine aB ?_;refine nG ak λW2 t b4 al A=> ?_;have am:ZT w W2:=(t.less ZJ).below a1 ZC;have an:Blk W2 g3 137 [.func (.func kq) #[] qcap.toArray]:=a3.ext t;have B:=aj.ext t;refine aB ?_;refine aH rfl (an.cell 0) ?_;refine aB ?_;refine fH rfl rfl b1 rfl (aA rfl ct aJ) (hq W2 xv j _ am B) ?_;rintro y H ⟨O,rfl⟩;have bc:=O.size;have au:Lp<W2.heap.size:=A.lt;have Y:=A.kept (O.block Lp au);have Z:=am.step O;have o:=(s.ext t).next O;have a0:=(K.ext t).next O;refine aB ?_;refine aK rfl (λao=> ?_) (λav=> ?_)
  .refine aB ?_;obtain ⟨X,a,rfl,_⟩:=B.form;refine fM rfl is66.q rfl rfl (o.cell 0) (o.frozen 0) rfl ?_;have ac:Blk (H.setCell ⟨b,0,none⟩ (.slice X j.length a)) b 66 [.slice X j.length a]:=o.set 0 _;have m:Blk (H.setCell ⟨b,0,none⟩ (.slice X j.length a)) d 4 [.bool false]:=a0.far (by show d≠b; omega) _;refine fM rfl is4.q rfl rfl (m.cell 0) (m.frozen 0) rfl ?_;refine aB ?_;have a8:Lp≠b/\Lp≠d:=⟨λe=>ab (.inl e),λe=>ab (.inr e)⟩;have aw:Blk ((H.setCell ⟨b,0,none⟩ (.slice X j.length a)).setCell ⟨d,0,none⟩ (.bool true)) b 66 [.slice X j.length a]:=ac.far (by show b≠d; omega) _;have ax:Blk ((H.setCell ⟨b,0,none⟩ (.slice X j.length a)).setCell ⟨d,0,none⟩ (.bool true)) d 4 [.bool true]:=m.set 0 _;have C: ∀k,k≠b->k≠d->((H.setCell ⟨b,0,none⟩ (.slice X j.length a)).setCell ⟨d,0,none⟩ (.bool true)).heap[k]?=H.heap[k]?:=λk h1 h2=>(Below.heap_setCell _ _ _ _ (by show k≠d; exact h2)).trans (Below.heap_setCell _ _ _ _ (by show k≠b; exact h1));have ap:((H.setCell ⟨b,0,none⟩ (.slice X j.length a)).setCell ⟨d,0,none⟩ (.bool true)).heap.size=H.heap.size:=ZM
   have ad:ZT w ((H.setCell ⟨b,0,none⟩ (.slice X j.length a)).setCell ⟨d,0,none⟩ (.bool true)):=(Z.setCell (by show w.heap.size<=b; omega) _).setCell (by show w.heap.size<=d; omega) _;have aq:SL aT (λk=>w.heap.size<=k/\ ¬(k=b\/k=d)) ((H.setCell ⟨b,0,none⟩ (.slice X j.length a)).setCell ⟨d,0,none⟩ (.bool true)) (.slice X j.length a) j:=(B.below O).mono (Kept.of_blocks λk I _=>C k (λe=>I.2 (.inl e)) (λe=>I.2 (.inr e)));refine Jo (Y.kept (C Lp a8.1 a8.2)) λW8 g a9 ae n=> ?_;rw [ap] at a9;refine ⟨ZJ,λk h1 h2 h3=>(ae k h3).trans ((C k (λe=>h2 (.inl e)) (λe=>h2 (.inr e))).trans ((O.block k ZJ).trans (al k h3))),λh=>(by cases h),λ_=>⟨λk=>k=b\/k=d,.ret,⟨rfl,(g.less ZJ).below ad ZC,ZJ,.slice X j.length a,j,aw.ext g,ax.ext g,N7 U (λy hy=> ?_) ao,aq.ext g⟩,n⟩⟩;obtain ⟨z,hz,rfl⟩:=List.mem_map.1 hy;exact G z hz
  .refine aB ?_;refine mJ Y λW8 g a9 ae n=> ?_;refine ⟨ZJ,λk h1 h2 h3=>(ae k h3).trans ((O.block k ZJ).trans (al k h3)),λ_=>⟨λk=>k=b\/k=d,⟨⟨(g.less ZJ).below Z ZC,ZJ,(an.next O).ext g,o.ext g,a0.ext g,λy hy=> ?_,rfl⟩,ab,N,n⟩,λk I=>⟨.inl I,by rcases I with rfl|rfl<;>omega⟩⟩,λh=>by cases h⟩;rcases ZH hy with h|h
   .exact G y h
   .rw [List.mem_singleton] at h;subst h;exact av
 .rintro D xs M W hD af ⟨a1,a2,a3,s,K,G,rfl⟩ N p;have R:xs.map (·.2)=L:=af;have ag:L.find? q=none:=by
   rw [List.find?_eq_none];intro S hS;rw [<-R] at hS;obtain ⟨x,i,rfl⟩:=List.mem_map.1 hS;simp [G x i]
  refine fC (aN ?_);refine aB ?_;refine fM rfl is66.q rfl rfl (s.cell 0) (s.frozen 0) rfl ?_;have ac:Blk (W.setCell ⟨b,0,none⟩ (.slice none 0 0)) b 66 [.slice none 0 0]:=s.set 0 _;have m:Blk (W.setCell ⟨b,0,none⟩ (.slice none 0 0)) d 4 [.bool false]:=K.far (by show d≠b; omega) _;refine fM rfl is4.q rfl rfl (m.cell 0) (m.frozen 0) rfl ?_;refine aB ?_;have aa:D≠b/\D≠d:=⟨λe=>N (.inl e),λe=>N (.inr e)⟩;have C:((W.setCell ⟨b,0,none⟩ (.slice none 0 0)).setCell ⟨d,0,none⟩ (.bool false)).heap[D]?=W.heap[D]?:=(Below.heap_setCell _ _ _ _ (by show D≠d; exact aa.2)).trans (Below.heap_setCell _ _ _ _ (by show D≠b; exact aa.1));have ad:ZT w ((W.setCell ⟨b,0,none⟩ (.slice none 0 0)).setCell ⟨d,0,none⟩ (.bool false)):=(a1.setCell (by show w.heap.size<=b; omega) _).setCell (by show w.heap.size<=d; omega) _;refine MF results86 io66.q io4.q rfl rfl (ac.far (by show b≠d; omega) _) (m.set 0 _) (C.trans p) ⟨jO ad ZJ,_,_,rfl,.inr ⟨ag,rfl⟩⟩
 .rintro D c r M W hD ⟨rfl,a2,a3,v,S,s,K,G,a7⟩ p;have ar:ExtF w3.heap.size W (W.putObj D (.deferred none)):=ExtF.putObj p rfl hD;refine aB ?_;refine MF results86 io66.q io4.q rfl rfl s K p ⟨jO a2 ZJ,_,_,rfl,.inl ⟨S,G,rfl,?_⟩⟩;exact (a7.ext ar).now jG
section
open Go.Sort
theorem K4 (h:OwnS w 3 1 v zs.length (zs.map (Value.int .i64))) (hn:zs.length<=9223372036854775807) :
  Gives prog 174 #[v] w λu f=>w.grownBy f v.ownBlock/\OwnS f 3 1 u (Lib.compact zs).length ((Lib.compact zs).map (Value.int .i64))/\u.ownBlock=v.ownBlock:=by
 rcases h.2 with ⟨rfl,s⟩|⟨g,i,j,rfl,t,n,x,y,z,o⟩
 .have A:=List.eq_nil_of_length_eq_zero s;subst A;refine (Tryz.slices_Compact_int_empty none 0 w).mono ?_;rintro e f ⟨rfl,rfl⟩;exact ⟨_,rfl,⟨rfl,rfl,rfl,ZC,λ_ _ _=>rfl⟩,by simpa [Lib.compact,Lib.compactUpTo] using OwnS.nil f _ 1,rfl⟩
 .have B:=holds_of_blockI n (by rw [Nat.mul_one] at o; exact o);have l:=Lib.compact_length_le zs;refine (Tryz.slices_Compact_int g 0 i zs w B hn x).mono ?_;rintro e f ⟨rfl,q,rfl⟩;obtain ⟨c,p⟩: ∃c,c=Lib.compact zs:=⟨_,rfl⟩;obtain ⟨d,a⟩: ∃d:List Int,d=c++List.replicate (zs.length-c.length) 0:=⟨_,rfl⟩;rw [<-p,<-a];rw [<-p] at l;have C:d.length=zs.length:=by rw [a]; simp; omega
  have b:(putRow (Value.int .i64) (Sort.ahead w q) g 0 d.toArray).heap[g]?=some (.cells (putCells (Value.int .i64) 0 d.toArray j) 3 (0,0)):=by
   simp [putRow,mapBlock,Array.getElem?_modify,n,onCells]
  refine ⟨_,rfl,⟨rfl,rfl,rfl,by simp [mapBlock],λk E m=> ?_⟩,⟨ZM,.inr ⟨g,i,_,rfl,t,b,ZJ,y,by simp [putCells,z],?_⟩⟩,rfl⟩
  .have:g≠k:=λe=>m (by rw [e]; rfl);simp [putRow,mapBlock,Array.getElem?_modify,this]
  .have D:=take_putCellsI j d ZJ;rw [Nat.mul_one];have r:=congrArg (List.take c.length) D;rw [List.take_take,Nat.min_eq_left ZJ] at r;rw [r,a,List.map_append,List.take_append_of_le_length ZM,List.take_of_length_le ZM]
theorem EK (hs:zs.Pairwise (· <= ·)):Inc (Lib.compact zs)/\ ∀x,x∈Lib.compact zs↔x∈zs:=by
 have d: ∀j,j<zs.length->zs.toArray[j]! = zs.getD j 0:=λj c=>by simp [c]
 have k: ∀i j,i<j->j<zs.length->zs.getD i 0<=zs.getD j 0:=λi j o c=>by
  have:=List.pairwise_iff_getElem.1 hs i j ZJ c o;simpa [c,show i<zs.length by omega] using this
 have p: ∀m,m<=zs.length->Inc (Lib.compactUpTo zs.toArray m)/\(∀x,x∈Lib.compactUpTo zs.toArray m↔ ∃j,j<m/\zs.getD j 0=x):=by
  intro m
  induction m with
  | zero=>exact λ_=>⟨by simp [Lib.compactUpTo,Inc],λx=>by simp [Lib.compactUpTo]⟩
  | succ m r =>
   intro t;obtain ⟨l,n⟩:=r ZJ;rw [Lib.compactUpTo_succ,d m ZJ];by_cases g:Lib.keeps zs.toArray m=true
   .rw [if_pos g];have h:m=0\/zs.getD m 0≠zs.getD (m-1) 0:=by
     unfold Lib.keeps at g;rw [decide_eq_true_eq,d m ZJ,d (m-1) ZJ] at g;exact g
    refine ⟨List.pairwise_append.2 ⟨l,List.pairwise_singleton _ _,λa s b q=> ?_⟩,λx=> ?_⟩
    .rw [List.mem_singleton] at q;obtain ⟨j,c,rfl⟩:=(n a).1 s;rcases h with rfl|h
     .omega
     .have u:=k (m-1) m ZJ ZJ;by_cases f:j=m-1
      .subst f; omega
      .have v:=k j (m-1) ZJ ZJ;omega
    .rw [List.mem_append,n,List.mem_singleton];constructor
     .rintro (⟨j,c,rfl⟩|rfl)
      .exact ⟨j,ZJ,rfl⟩
      .exact ⟨m,ZJ,rfl⟩
     .rintro ⟨j,c,rfl⟩;by_cases f:j=m
      .subst f; exact .inr rfl
      .exact .inl ⟨j,ZJ,rfl⟩
   .rw [if_neg g,List.append_nil];have h:m≠0/\zs.getD m 0=zs.getD (m-1) 0:=by
     unfold Lib.keeps at g;rw [decide_eq_true_eq,d m ZJ,d (m-1) ZJ] at g;exact ⟨λe=>g (.inl e),Classical.byContradiction λe=>g (.inr e)⟩
    refine ⟨l,λx=> ?_⟩;rw [n];constructor
    .rintro ⟨j,c,rfl⟩;exact ⟨j,ZJ,rfl⟩
    .rintro ⟨j,c,rfl⟩;by_cases f:j=m
     .subst f; exact ⟨j-1,ZJ,h.2.symm⟩
     .exact ⟨j,ZJ,rfl⟩
 obtain ⟨l,n⟩:=p zs.length ZC;refine ⟨l,λx=> ?_⟩;unfold Lib.compact;rw [n,List.mem_iff_getElem?];constructor
 .rintro ⟨j,c,rfl⟩;exact ⟨j,by simp [c]⟩
 .rintro ⟨j,c⟩;obtain ⟨l,n⟩:=ZE c;exact ⟨j,l,by simp [c]⟩
theorem CR (l:List Ev):Lib.compact ((cK l).mergeSort λx y=>decide (x<=y))=aQ l:=by
 have f:((cK l).mergeSort λx y=>decide (x<=y)).Pairwise (· <= ·):=by
  have:=List.pairwise_mergeSort (le:=λx y:Int=>decide (x<=y)) (λa b c d e=>by simp at *; omega) (λa b=>ZO) (cK l);exact this.imp λh=>by simpa using h
 obtain ⟨d,e⟩:=EK f;refine mh d (iM l) λx=> ?_;rw [e,List.mem_mergeSort,mem_recsS];unfold cK;rw [List.mem_flatMap]
theorem Q4 (hl:SE w v l) (a4:l.length<=1000) (D: ∀e∈l,e.needs.length<=1000) :
  Gives prog 88 #[v] w λx Z=>ZT w Z/\OwnS Z 3 1 x (aQ l).length ((aQ l).map (Value.int .i64))/\ ∀g,x.ownBlock=some g->w.heap.size<=g:=by
 obtain ⟨A,I,rfl,_⟩:=hl.form;have p: ∀k,(cK (l.take k)).length<=1000*k:=by
  intro k
  induction k with
  | zero=>simp [cK]
  | succ k ih =>
   rw [ZG];unfold cK at *;rw [List.flatMap_append,List.length_append]
   cases E:l[k]? with
   | none =>
    show _+(([]:List Ev).flatMap (·.needs)).length<=_;rw [List.flatMap_nil,List.length_nil]
    omega
   | some e =>
    have:=D e (ZF E);show _+(([e]:List Ev).flatMap (·.needs)).length<=_;rw [List.flatMap_singleton];omega
 refine gv func88 ntmps88 ?_;refine aB ?_;refine cB (λx:Nat×Value=> [(3,none,x.2),(6,none,.slice A l.length I),(7,none,ZU (l.length:Int)),(8,none,ZU (x.1:Int))])
  (λx W=>x.1<=l.length/\ZT w W/\OwnS W 3 1 x.2 (cK (l.take x.1)).length ((cK (l.take x.1)).map (Value.int .i64))/\ ∀g,x.2.ownBlock=some g->w.heap.size<=g) (λx=>l.length-x.1) (0,.slice none 0 0) [3,6,7,8] ⟨ZB,ZA,OwnS.nil _ _ _,λg i=>by simp [Value.ownBlock] at i⟩ rfl ?_
 rintro ⟨k,ov⟩ W ⟨hk,F,G,b⟩;dsimp only at hk G b;have J:=p k;refine aB ?_;refine aI rfl (λa2=> ?_) (λa3=> ?_)
 .obtain ⟨e,E,K⟩:=eT (l:=l) (k:=k) ZJ;have a0:=D e K;have q:=dY hl F;obtain ⟨ad,rfl⟩:=q.addr ZJ;obtain ⟨nv,c,i1,i2,i3,a⟩:=SE.get q E;obtain ⟨C,a1,rfl,_⟩:=a.form;refine aB ?_;refine gy rfl (c) ?_;refine fB rfl uE rfl is68.q rfl rfl ?_;rintro g1 w1 H;refine aB ?_;have L:=a.below H.below;have m: ∀(j:Nat) (u:Value),(e.needs.map (Value.int .i64))[j]?=some u-> ∃d:Addr,C=some d/\w1.cell? (d.add j)=some u:=by
   intro j u hu;simp only [List.getElem?_map] at hu;obtain ⟨z,hz,rfl⟩:=Option.map_eq_some_iff.1 hu;obtain ⟨d,h1,h2,_⟩:=L.int hz;exact ⟨d,h1,by rw [Nat.mul_one] at h2; exact h2⟩
  refine aH rfl (H.blk.fld rfl) ?_;refine aU (e.needs.map (Value.int .i64)) rfl rfl jH rfl (G.below H.below) rfl ZM m (je _) ZJ ZJ ?_;rintro r M o2 n N;refine aB ?_;have o:=F.step H.below;have O:cK (l.take (k+1))=cK (l.take k)++e.needs:=by
   rw [ZG,E];simp [cK]
  refine bJ (k+1,r) [3,6,7,8] rfl ⟨by show k+1<=l.length; omega,o.grown n o.size b,?_,λg i=> ?_⟩ (by show l.length-(k+1)<l.length-k; omega)
  .show OwnS M _ 1 r (cK (l.take (k+1))).length ((cK (l.take (k+1))).map (Value.int .i64));rw [O];simpa using o2
  .rcases N with h|h
   .exact b g (by rw [<-h]; exact i)
   .rw [h] at i; cases i; exact o.size
 have R:k=l.length:=ZJ;subst R;rw [List.take_length] at G J;refine aB ?_;refine aM rfl (Mm G ZJ) ?_;rintro y M ⟨n,S⟩;have s:=F.grown n F.size b;have t:OwnS M 3 1 ov ((cK l).mergeSort λx y=>decide (x<=y)).length (((cK l).mergeSort λx y=>decide (x<=y)).map (Value.int .i64)):=by rw [List.length_mergeSort]; exact S
 refine aB ?_;refine aM rfl (K4 t (by rw [List.length_mergeSort]; omega)) ?_;rintro u3 w3 ⟨U,B,Y⟩;refine aB ?_;rw [CR] at B;refine aO rfl ⟨s.grown U s.size b,B,λg i=>b g (by rw [<-Y]; exact i)⟩
end
theorem qZ {α:Type}: ∀ {l t:List α},t.Sublist l-> ∀n,t.length<=n->n<=l.length-> ∃b,t.Sublist b/\b.Sublist l/\b.length=n
 | [],t,h,n,c,a=>⟨[],by simpa using h,List.Sublist.refl _,by simp at a; simp [a]⟩
 | x::l,t,h,n,c,a=>by
  cases h with
  | cons _ h =>
   by_cases g:n<=l.length
   .obtain ⟨b,d,e,f⟩:=qZ h n c g;exact ⟨b,d,e.cons x,f⟩
   .simp at a
    exact ⟨x::l,h.cons x,List.Sublist.refl _,ZO⟩
  | cons_cons _ h =>
   simp at c a;obtain ⟨b,d,e,f⟩:=qZ h (n-1) ZJ ZJ;exact ⟨x::b,d.cons_cons x,e.cons_cons x,ZO⟩
theorem gone_iff {e:Ev}:gone S e=true↔ ∃r∈e.needs,r∈S:=by
 unfold gone;simp
theorem JW {T:List Int} (h: ∀e∈l,gone S e=true->gone T e=true):(bL l T).Sublist (bL l S):=by
 unfold bL;have a:l.filter (λe=> !gone T e)=(l.filter (λe=> !gone S e)).filter (λe=> !gone T e):=by
  rw [List.filter_filter];refine List.filter_congr λe b=> ?_
  cases c:gone S e with
  | false=>simp
  | true=>simp [h e b c]
 rw [a];exact List.filter_sublist
structure WOK (d:bD) (l:List Ev) (most:Int):Prop where
 wf:WfP d l
 m0:0<=most
 m3:most<=3
 rl:(aQ l).length<=14
theorem WOK.eq (h:WOK d l most):bA d l most=(bZ (aQ l) (min most.toNat (aQ l).length)).filter (λS=>dec (Poss d (bL l S))):=by
 unfold bA;rw [if_pos ⟨aC h.wf,h.m0,h.m3,h.rl⟩]
theorem WOK.mem (h:WOK d l most) {b:List Int}:b∈bA d l most↔b.Sublist (aQ l)/\b.length=min most.toNat (aQ l).length/\Poss d (bL l b):=by
 rw [h.eq,List.mem_filter,mem_setsS,dec_iff,and_assoc]
theorem WOK.err (h:WOK d l most):bU d l most=if bA d l most= [] then 280 else 0:=by
 unfold bU;rw [if_pos ⟨aC h.wf,h.m0,h.m3⟩,if_pos h.rl]
theorem WOK.ok (h:WOK d l most) {b:List Int} (hb:b∈bA d l most):bU d l most=0:=by
 rw [h.err,if_neg (λe=>by rw [e] at hb; cases hb)]
theorem WOK.has (h:WOK d l most) {s:List Int} (hs:(s.length:Int)<=most) (hp:Poss d (bL l s)): ∃b∈bA d l most,∀x∈s.filter (λy=>decide (y∈aQ l)),x∈b:=by
 have f:=(iM l).nodup;have a:((aQ l).filter λy=>decide (y∈s)).Sublist (aQ l):=List.filter_sublist;have o:=dR (f.sublist a) (λx g=>by
  have:=(List.mem_filter.1 g).2;simpa using this)
 have m:=a.length_le;obtain ⟨b,p,q,t⟩:=qZ a (min most.toNat (aQ l).length) ZJ ZJ;have c: ∀x∈s,x∈aQ l->x∈b:=λx i j=>p.subset (List.mem_filter.2 ⟨j,by simpa using i⟩);refine ⟨b,h.mem.2 ⟨q,t,hp.sub (JW λe u v=> ?_)⟩,λx g=> ?_⟩
 .obtain ⟨r,n,k⟩:=gone_iff.1 v;exact gone_iff.2 ⟨r,n,c r k (mem_recsS.2 ⟨e,u,n⟩)⟩
 .obtain ⟨i,j⟩:=List.mem_filter.1 g;exact c x i (by simpa using j)
theorem WfP.sub {l':List Ev} (h:WfP d l) (hs:l'.Sublist l):WfP d l' :=
 ⟨h.wd,by have:=hs.length_le; have:=h.few; omega,λe a=>h.each e (hs.subset a),λe a=>h.pos e (hs.subset a)⟩
theorem MN {l':List Ev} (hs:l'.Sublist l): ∀x∈aQ l',x∈aQ l:=λx b=>by
 obtain ⟨e,c,a⟩:=mem_recsS.1 b;exact mem_recsS.2 ⟨e,hs.subset c,a⟩
theorem WOK.sub {d:bD} {l l':List Ev} {most:Int} (h:WOK d l most) (hs:l'.Sublist l):WOK d l' most :=
 ⟨h.wf.sub hs,h.m0,h.m3,by have:=dR (iM l').nodup (MN hs); have:=h.rl; omega⟩
theorem WOK.len (h:WOK d l most) {b:List Int} (hb:b∈bA d l most):(b.length:Int)<=most:=by
 have:=(h.mem.1 hb).2.1;have:=h.m0;omega
theorem WOK.more (h:WOK d l most) (m:most<3) {b:List Int} (hb:b∈bA d l most): ∃c∈bA d l (most+1),∀x∈b,x∈c:=by
 have f:WOK d l (most+1):=⟨h.wf,by have:=h.m0; omega,ZJ,h.rl⟩;obtain ⟨g,k,i⟩:=h.mem.1 hb;obtain ⟨c,j,a⟩:=f.has (by have:=h.len hb; omega) i;exact ⟨c,j,λx e=>a x (List.mem_filter.2 ⟨e,by simpa using g.subset e⟩)⟩
theorem WOK.inc (h:WOK d l most) {b:List Int} (hb:b∈bA d l most):Inc b:=(iM l).sublist (h.mem.1 hb).1
theorem Ew {sv:Value} (j:SD w dv d) (hl:SE w lv l) (k:SL aT F w sv S) (a:l.length<=1000000) (b: ∀e∈l,e.needs.length<=1000000) :
  Gives prog 85 #[dv,lv,sv] w λu g=>ZT w g/\u= .bool (dec (kD d (bL l S))):=by
 refine gv func85 ntmps85 ?_;refine aB ?_;refine aM rfl (MJ hl k a b) ?_;rintro m n ⟨c,h⟩;refine aM rfl (Ef (fQ j c) h) ?_;rintro y o ⟨i,p,rfl⟩;refine aB ?_;refine aO rfl ⟨c.step i,rfl⟩
theorem Cw {sv:Value} {g1 g2:Nat} (j:SD w dv d) (hl:SE w lv l) (a:Blk w g1 40 [dv]) (b:Blk w g2 39 [lv]) (k:SL aT F w sv S) (c:l.length<=1000000) (g: ∀e∈l,e.needs.length<=1000000) :
  Gives prog 84 #[sv,.pointer (some ⟨g1,0,none⟩),.pointer (some ⟨g2,0,none⟩)] w λu h=>ZT w h/\u= .bool (dec (kD d (bL l S))):=by
 refine gv func84 ntmps84 ?_;refine aB ?_;refine aH rfl (a.cell 0) ?_;refine aH rfl (b.cell 0) ?_;refine aB ?_;refine aM rfl (Ew j hl k c g) ?_;rintro y m ⟨i,rfl⟩;refine aB ?_;refine aO rfl ⟨i,rfl⟩
noncomputable def fI (d:bD) (l:List Ev):Option (List Int):=(oH (aQ l)).find? λS=>dec (Poss d (bL l S))
noncomputable def jy (d:bD) (l:List Ev):Int:=if dec (WfP d l)=true then (if (aQ l).length<=14 then (match fI d l with|some _=>0|none=>280) else 2) else 1
noncomputable def iV (d:bD) (l:List Ev):List Int:=if dec (WfP d l)=true/\(aQ l).length<=14 then (fI d l).getD [] else []
theorem Lh (l:List Int): ∃a,oH l= []::a:=by
 unfold oH;rw [List.range_succ_eq_map,List.flatMap_cons];have:bZ l 0= [[]]:=by cases l<;>rfl
 rw [this];exact ⟨_,rfl⟩
theorem Ad (h:Poss d (bL l [])):fI d l=some []:=by
 unfold fI;obtain ⟨r,a⟩:=Lh (aQ l);rw [a];simp [aC h]
theorem AP (h:WOK d l 0):bA d l 0= []↔ ¬Poss d (bL l []):=by
 rw [h.eq];have:bZ (aQ l) (min (0:Int).toNat (aQ l).length)= [[]]:=by
  cases aQ l<;>rfl
 rw [this];by_cases a:Poss d (bL l [])<;>simp [a,aC,aG]
theorem FB (hd:SD w dv d) (hl:SE w lv l) (u: ∀e∈l,e.needs.length<=1000) :
  Gives prog 36 #[dv,lv] w λx w'=>ZT w w'/\ ∃v,x= .tuple #[v,ZU (jy d l)]/\SI w' v (iV d l):=by
 obtain ⟨A,af,rfl,_⟩:=hd.form;obtain ⟨B,ac,rfl,_⟩:=hl.form;refine gv func36 ntmps36 ?_;refine aB ?_;refine bY rfl rfl rfl rfl ?_;rintro g2 w1 f1;refine bY rfl rfl rfl rfl ?_;rintro g3 w2 W;refine aB ?_;have Y:=f1.below.step W.below;have B2:=f1.blk.next W.below;have B3:=W.blk;have z:=fQ hd Y;have C:=dY hl Y;refine aH rfl (B2.cell 0) ?_;refine aH rfl (B3.cell 0) ?_;refine aM rfl (LW z C u) ?_;rintro y w3 ⟨D,wv,rfl,ag⟩;have b3:=Y.step D;refine aB ?_;have r:bU d l 0=if dec (WfP d l)=true then (if (aQ l).length<=14 then (if bA d l 0= [] then 280 else 0) else 2) else 1:=by
  unfold bU;simp
 refine aI rfl (λa=> ?_) (λE=> ?_)
 .refine aB ?_;refine rY rfl ⟨b3,.slice none 0 0,?_,?_⟩
  .by_cases b:dec (WfP d l)=true
   .by_cases m:(aQ l).length<=14
    .have c:WOK d l 0:=⟨dec_iff.1 b,ZL,ZL,m⟩;have O:Poss d (bL l []):=by
      apply Classical.byContradiction;intro h;rw [r,if_pos b,if_pos m,if_pos ((AP c).2 h)] at a;exact a rfl
     rw [r,if_pos b,if_pos m,if_neg (λh=>(AP c).1 h O)];unfold jy;rw [if_pos b,if_pos m,Ad O];rfl
    .rw [r,if_pos b,if_neg m];unfold jy;rw [if_pos b,if_neg m];rfl
   .rw [r,if_neg b];unfold jy;rw [if_neg b];rfl
  .have h0:iV d l= []:=by
    unfold iV
    split
    .rename_i h;have c:WOK d l 0:=⟨dec_iff.1 h.1,ZL,ZL,h.2⟩;have O:Poss d (bL l []):=by
      apply Classical.byContradiction;intro h';rw [r,if_pos h.1,if_pos h.2,if_pos ((AP c).2 h')] at a;exact a rfl
     rw [Ad O];rfl
    .rfl
   rw [h0];exact SL.nil _ _ _
 have n:bU d l 0=280:=by
  apply Classical.byContradiction;exact E
 have b:WfP d l:=by
  apply dec_iff.1;apply Classical.byContradiction;intro h;rw [r,if_neg h] at n;exact absurd n ZL
 have m:(aQ l).length<=14:=by
  apply Classical.byContradiction;intro h;rw [r,if_pos (aC b),if_neg h] at n;exact absurd n ZL
 have ae:=b.few;have Z:=B2.next D;have G:=B3.next D;have a0:=fQ z D;have H:=dY C D;have s: ∀x∈aQ l,fE x:=λx hx=>by
  obtain ⟨e,he,a1⟩:=mem_recsS.1 hx;obtain ⟨i,hi,a2⟩:=List.getElem_of_mem he;obtain ⟨ad,cs,_,_,⟨nv,_,_,_,_,hn⟩,_⟩:=hl.at (i:=i) (x:=e) (by rw [<-a2]; exact ZD hi);exact hn.allI x a1
 refine aB ?_;refine dS rfl rfl (aA rfl ct (aA rfl ct aJ)) ?_;refine aB ?_;refine aH rfl (G.cell 0) ?_;refine aM rfl (Q4 H ZJ u) ?_;rintro rv w4 ⟨c4,t,ah⟩;obtain ⟨R,I,rfl,_⟩:=t.form;refine aM rfl (Q0) ?_;rintro y w5 ⟨c5,g5,rfl,J,ai⟩;have j:=c4.step c5;have K:SI w5 (.slice R (aQ l).length I) (aQ l):=(dU (t.below c5) s (λg hg=>(t.below c5).lt hg) ZJ);have a3:=GZ K (λk L=>L) m J;have a4:=fQ a0 j;have a5:=dY H j;have a6:=Z.next j;have a7:=G.next j;refine aB ?_;refine aM rfl (QV (q:=λS=>dec (kD d (bL l S))) a3 V5 (λk L=>by rcases L with rfl|L; exact J.lt; exact L) XN (qcap:= [.pointer (some ⟨g2,0,none⟩),.pointer (some ⟨g3,0,none⟩)]) (λW' v S F U hS=>Cw (fQ a4 U) (dY a5 U) (a6.next U) (a7.next U) hS ZJ (λe he=>by have:=u e he; omega))) ?_;rintro y w6 ⟨c6,v6,aj,rfl,hF⟩;have b6:=(b3.step j).step c6;have a8:(λS=>dec (kD d (bL l S)))=λS=>dec (Poss d (bL l S)):=by
  funext S;exact bH (b.rest S)
 rw [a8] at hF;have M:jy d l=match fI d l with|some _=>0|none=>280:=by
  unfold jy;rw [if_pos (aC b),if_pos m]
 have N:iV d l=(fI d l).getD []:=by
  unfold iV;rw [if_pos ⟨aC b,m⟩]
 refine aB ?_;rcases hF with ⟨S,a9,rfl,aa⟩|⟨ab,rfl⟩
 .have o:fI d l=some S:=a9;refine aK rfl (λh1=> ?_) (λh2=> ?_)
  .exact absurd h1 ZM
  .refine aB ?_;refine rY rfl ⟨b6,v6,by rw [M,o]; rfl,by rw [N,o]; exact aa⟩
 .have p:fI d l=none:=ab;refine aK rfl (λh1=> ?_) (λh2=> ?_)
  .refine aB ?_;refine rY rfl ⟨b6,.slice none 0 0,by rw [M,p],by rw [N,p]; exact SL.nil _ _ _⟩
  .exact absurd h2 ZM
section
variable {φ:Nat->Nat} {d:bD}
theorem QW {l:List Sc} {r':List Rc} (h:Emb φ r r') (b: ∀d,Fol l r' lab d-> ∀n∈d.needs,∃i:Nat,n=((φ i:Nat):Int)):bX l r' lab=(bX l r lab).map (eQ φ):=by
 unfold bX;rw [List.map_take]
 congr 1
 refine (tT (Im h.mono (iL _) λe a=>(mem_folL.1 (mem_canon.1 a)).pos) λx=> ?_).symm;rw [List.mem_map,mem_folL];constructor
 .rintro ⟨e,a,rfl⟩;exact ((wL h).2 ⟨e,mem_folL.1 (mem_canon.1 a),rfl⟩).1
 .intro c;obtain ⟨e,a,rfl⟩:=(wL h).1 ⟨c,b x c⟩;exact ⟨e,mem_canon.2 (mem_folL.2 a),rfl⟩
theorem nX {l:List Sc}: ∀e∈bX l r lab,∀n∈e.needs,0<=n:=λe a=>(mem_folL.1 (mem_canon.1 (List.mem_of_mem_take a))).pos
theorem IX {l:List Sc}:(bX l r lab).length<=14:=by
 unfold bX;rw [List.length_take];omega
theorem lu {l:List Sc}: ∀e∈bX l r lab,e.needs.length<=4:=λe a=>(mem_folL.1 (mem_canon.1 (List.mem_of_mem_take a))).len.2
def fF (e:Ev):Int×Int×Int:=(e.office,e.low,e.high)
theorem BP: ∀ {a:List ET} {b:List Ev},a.map (λx=>fF x.1)=b.map fF-> ∃c:List ET,c.map (·.1)=b/\c.map (λx=>(fF x.1,x.2))=a.map (λx=>(fF x.1,x.2))
 | [],[],_=>⟨[],rfl,rfl⟩
 | [],_::_,h=>by simp at h
 | _::_,[],h=>by simp at h
 | x::a,y::b,h=>by
  simp only [List.map_cons,List.cons.injEq] at h;obtain ⟨c,d,e⟩:=BP h.2;exact ⟨(y,x.2)::c,by simp [d],by simp [e,h.1]⟩
theorem tY {x y x' y':ET} (a:fF x.1=fF x'.1/\x.2=x'.2) (b:fF y.1=fF y'.1/\y.2=y'.2):zu d x y↔zu d x' y':=by
 have c:x.1.office=x'.1.office:=congrArg (·.1) a.1;have e:y.1.office=y'.1.office:=congrArg (·.1) b.1;unfold zu;rw [c,e,a.2,b.2]
theorem xY {a c:List ET} (h:c.map (λx=>(fF x.1,x.2))=a.map (λx=>(fF x.1,x.2))) (o:HoldsN d a):HoldsN d c:=by
 refine ⟨λx p=> ?_,?_⟩
 .have:(fF x.1,x.2)∈a.map (λx=>(fF x.1,x.2)):=by rw [<-h]; exact List.mem_map.2 ⟨x,p,rfl⟩
  obtain ⟨y,q,e⟩:=List.mem_map.1 this;simp only [fF,Prod.mk.injEq] at e;have:=o.each y q;rw [<-e.1.2.1,<-e.1.2.2,<-e.2];exact this
 .rw [List.pairwise_iff_getElem];intro i j g m f;have r:=congrArg List.length h;simp only [List.length_map] at r;have b: ∀(k:Nat) (n:k<c.length),fF c[k].1=fF (a[k]'(by omega)).1/\c[k].2=(a[k]'(by omega)).2:=λk n=>by
   have:=congrArg (λl=>l[k]?) h;simp only [List.getElem?_map,ZD n,ZD (show k<a.length by omega),Option.map_some,Option.some.injEq,Prod.mk.injEq] at this;exact this
  have:=List.pairwise_iff_getElem.1 o.two i j ZJ ZJ f;rw [tY (b i g) (b j m),tY (b j m) (b i g)];exact this
theorem p9 {a b:List Ev} (h:a.map fF=b.map fF) (hp:Poss d a):Poss d b:=by
 obtain ⟨l,rfl,e⟩:=hp;obtain ⟨c,f,g⟩:=BP (a:=l) (by rw [<-h,List.map_map]; rfl);exact ⟨c,f,xY g e⟩
theorem pz (l:List Ev):(l.map (eQ φ)).map fF=l.map fF:=by rw [List.map_map]; rfl
theorem sQ:Poss d (l.map (eQ φ))↔Poss d l:=⟨p9 (pz l),p9 (pz l).symm⟩
theorem lH (l:List Int):(dI φ l).length=l.length:=List.length_map ..
theorem mW (h: ∀i j,i<j->φ i<φ j) (g: ∀e∈l,∀n∈e.needs,0<=n):aQ (l.map (eQ φ))=dI φ (aQ l):=by
 refine mh (iM _) (C6 h (iM _) λn a=> ?_) λx=> ?_
 .obtain ⟨e,b,c⟩:=mem_recsS.1 a;exact g e b n c
 .rw [mem_recsS,mem_renI];constructor
  .rintro ⟨k,d,c⟩;obtain ⟨e,b,rfl⟩:=List.mem_map.1 d;obtain ⟨n,a,f⟩:=mem_renI.1 c;exact ⟨n,mem_recsS.2 ⟨e,b,a⟩,f⟩
  .rintro ⟨n,a,f⟩;obtain ⟨e,b,c⟩:=mem_recsS.1 a;exact ⟨eQ φ e,List.mem_map_of_mem b,mem_renI.2 ⟨n,c,f⟩⟩
theorem xA (h: ∀i j,i<j->φ i<φ j) (c: ∀e∈l,∀n∈e.needs,0<=n) (d: ∀n∈S,0<=n):bL (l.map (eQ φ)) (dI φ S)=(bL l S).map (eQ φ):=by
 unfold bL;rw [List.filter_map]
 congr 1
 refine List.filter_congr λe a=> ?_;show (!gone (dI φ S) (eQ φ e))= !gone S e
 congr 1
 unfold gone;show (dI φ e.needs).any _=_;unfold dI;rw [List.any_map];rw [Bool.eq_iff_iff,List.any_eq_true,List.any_eq_true];refine exists_congr λn=>and_congr_right λb=> ?_;show (dI φ S).contains ((φ n.toNat:Nat):Int)=true↔S.contains n=true;rw [List.contains_iff_mem,List.contains_iff_mem,MM h d (c e a n b)]
theorem sJ (φ:Nat->Nat): ∀(L:List Int) (k:Nat),bZ (dI φ L) k=(bZ L k).map (dI φ)
 | L,0=>by
  have a: ∀L:List Int,bZ L 0= [[]]:=λL=>by cases L<;>rfl
  rw [a,a]; rfl
 | [],_+1=>rfl
 | x::L,k+1=>by
  show (bZ (dI φ L) k).map (((φ x.toNat:Nat):Int):: ·)++bZ (dI φ L) (k+1)=((bZ L k).map (x:: ·)++bZ L (k+1)).map (dI φ);rw [sJ φ L k,sJ φ L (k+1),List.map_append,List.map_map,List.map_map];rfl
theorem Rh (φ:Nat->Nat) (L:List Int):oH (dI φ L)=(oH L).map (dI φ):=by
 unfold oH;rw [lH,List.map_flatMap]
 congr 1
 funext k;exact sJ φ L k
theorem wU (f: ∀e∈l,∀n∈e.needs,0<=n):WfP d (l.map (eQ φ))↔WfP d l:=by
 constructor
 .intro h;exact ⟨h.wd,by have:=h.few; simpa using this,λe a=>by
   have:=h.each (eQ φ e) (List.mem_map_of_mem a);exact ⟨this.o1,this.o2⟩,λe a n b=>f e a n b⟩
 .intro h;refine ⟨h.wd,by have:=h.few; simpa using this,λe a=> ?_,λe a n b=> ?_⟩
  .obtain ⟨e,c,rfl⟩:=List.mem_map.1 a;have:=h.each e c;exact ⟨this.o1,this.o2⟩
  .obtain ⟨e,c,rfl⟩:=List.mem_map.1 a;obtain ⟨m,_,rfl⟩:=mem_renI.1 b;omega
theorem bH {p q:Prop} (h:p↔q):dec p=dec q:=by rw [propext h]
theorem xB (d: ∀e∈l,∀n∈e.needs,0<=n): ∀n∈aQ l,0<=n:=λn a=>by
 obtain ⟨e,b,c⟩:=mem_recsS.1 a;exact d e b n c
theorem Fy (h: ∀i j,i<j->φ i<φ j) (a: ∀e∈l,∀n∈e.needs,0<=n):bA d (l.map (eQ φ)) most=(bA d l most).map (dI φ)/\bU d (l.map (eQ φ)) most=bU d l most:=by
 have b:bA d (l.map (eQ φ)) most=(bA d l most).map (dI φ):=by
  unfold bA;rw [bH (wU a),mW h a,lH]
  split
  .rw [sJ,List.filter_map]
   congr 1
   refine List.filter_congr λS b=> ?_;have f:=(mem_setsS.1 b).1;show dec (Poss d (bL (l.map (eQ φ)) (dI φ S)))=dec (Poss d (bL l S));rw [xA h a λn c=>xB a n (f.subset c),bH sQ]
  .rfl
 refine ⟨b,?_⟩;have c:(bA d (l.map (eQ φ)) most= [])=(bA d l most= []):=by rw [b,List.map_eq_nil_iff]
 unfold bU;rw [bH (wU a),mW h a,lH];simp only [c]
theorem Ej {α β:Type} {f:α->β} {p:β->Bool}: ∀ {l:List α},(l.map f).find? p=(l.find? λx=>p (f x)).map f
 | []=>rfl
 | x::l=>by
  rw [List.map_cons,List.find?_cons,List.find?_cons]
  cases p (f x) with
  | true=>rfl
  | false=>exact Ej
theorem find_congr {α:Type} {p q:α->Bool}: ∀ {l:List α},(∀x∈l,p x=q x)->l.find? p=l.find? q
 | [],_=>rfl
 | x::l,h=>by
  rw [List.find?_cons,List.find?_cons,h x ZM,find_congr λy a=>h y (by simp [a])]
theorem tq {L:List Int} (h:S∈oH L):S.Sublist L:=by
 obtain ⟨k,_,a⟩:=List.mem_flatMap.1 h;exact (mem_setsS.1 a).1
theorem Cx (h: ∀i j,i<j->φ i<φ j) (a: ∀e∈l,∀n∈e.needs,0<=n):iV d (l.map (eQ φ))=dI φ (iV d l)/\jy d (l.map (eQ φ))=jy d l:=by
 have b:fI d (l.map (eQ φ))=(fI d l).map (dI φ):=by
  unfold fI;rw [mW h a,Rh,Ej]
  congr 1
  refine find_congr λS c=> ?_;rw [xA h a λn f=>xB a n ((tq c).subset f),bH sQ]
 refine ⟨?_,?_⟩
 .unfold iV;rw [bH (wU a),mW h a,lH,b]
  split
  .cases fI d l<;>rfl
  .rfl
 .unfold jy;rw [bH (wU a),mW h a,lH,b];cases fI d l<;>rfl
end
end Go.Proofs.YtoleahhfkpkcjaaGreatDoor
namespace Go.Proofs.YtoleahhfkpkcjaaGreatDoor
open Go.Proofs.Tryz
section
open Go.PF Go.RowKit Go.Ord
attribute [local irreducible] TW CW KW DW
def uK (dn:Nat) (e:Ev):Bool:=decide (e.office<0)||decide (e.office ≥ (dn:Int))
theorem PL {D:Option Addr} {dn dc:Nat} (j:Blk w g 40 [.slice D dn dc]):E9 w 176 [.pointer (some ⟨g,0,none⟩)] (uK dn):=by
 intro e k F l b i;obtain ⟨C,h,rfl,_⟩:=i.form;have c:=j.next b;refine gv func176 ntmps176 ?_;refine aB ?_;refine bY rfl rfl rfl rfl ?_;rintro m n a;refine aB ?_;have d:=c.next a.below;refine aH rfl (a.blk.fld rfl) ?_;refine aB ?_;refine aH rfl (a.blk.fld rfl) ?_;refine aH rfl (d.cell 0) ?_;refine aB ?_;refine aO rfl ⟨a.below,rfl⟩
theorem PZ {p:Ev->Bool} (hl:SE w v l) (e:enters prog k=true) (hp:E9 w k caps p) :
  Gives prog 175 #[v,.func (.func k) #[] caps.toArray] w λx c=>ZT w c/\x= .bool (l.any p):=by
 obtain ⟨A,d,rfl,_⟩:=hl.form;refine gv func175 ntmps175 ?_;refine aB ?_;refine aM rfl (D8 hl e hp) ?_;rintro g h ⟨a,b⟩;rcases b with ⟨rfl,b⟩|⟨i,rfl,b⟩
 .skip
  refine aB ?_;refine aO rfl ⟨a,by rw [b]; rfl⟩
 .skip
  refine aB ?_;refine aO rfl ⟨a,by rw [b]; simp⟩
structure FitW (d:bD) (l:List Ev) (nw:Nat):Prop where
 few:l.length<=14
 worlds:nw<=400
 wd:WfD d
 each: ∀e∈l,EOK d e
theorem off_all:l.any (uK d.length)=false↔ ∀e∈l,EOK d e:=by
 rw [List.any_eq_false];refine ⟨λh e a=> ?_,λh e a b=> ?_⟩
 .have:=h e a;unfold uK at this;simp at this;exact ⟨ZJ,ZJ⟩
 .have c:=(h e a).o1;have f:=(h e a).o2;unfold uK at b;simp at b;omega
theorem KE {W:Option Addr} {nw wc:Nat} (t:SD w dv d) (hl:SE w lv l):Gives prog 89 #[dv,lv,.slice W nw wc] w λx u=>ZT w u/\x= .bool (dec (FitW d l nw)):=by
 obtain ⟨A,v,rfl,_⟩:=t.form;obtain ⟨B,q,rfl,_⟩:=hl.form;refine gv func89 ntmps89 ?_;refine aB ?_;refine bY rfl rfl rfl rfl ?_;rintro g r b;refine aB ?_;refine aK rfl (λc=> ?_) (λa=> ?_)
 .refine aB ?_;refine aO rfl ⟨b.below,by rw [aG λh=>by have:=h.few; have:=h.worlds; simp at c; omega]⟩
 have s:l.length<=14/\nw<=400:=by simp at a; omega
 refine aB ?_;refine aH rfl (b.blk.cell 0) ?_;refine aM rfl (Ef (fQ t b.below) (SL.nil evT (λk=>k<r.heap.size) r)) ?_;rintro z C ⟨i,D,rfl⟩;have j:=b.below.step i;have o:=b.blk.next i;have p:dec (kD d [])=dec (WfD d):=bH ⟨λh=>h.1.wd,λh=>⟨⟨h,ZM,ZM⟩,Dg d⟩⟩;rw [p];refine aB ?_;refine dS rfl rfl (aA rfl ct aJ) ?_;refine iJ (cap:= []) rfl rfl V3 rfl ct (aA rfl id (aA rfl id aJ)) (λ_=>PZ (dY hl j) V2 (PL o)) ?_;rintro E y;refine aB ?_;refine aO rfl ⟨j.step y,?_⟩;by_cases m:WfD d
 .rw [aC m];by_cases n: ∀e∈l,EOK d e
  .rw [off_all.2 n,aC ⟨s.1,s.2,m,n⟩];rfl
  .have:l.any (uK d.length)=true:=by
    cases h:l.any (uK d.length) with
    | true=>rfl
    | false=>exact absurd (off_all.1 h) n
   rw [this,aG λh=>n h.each];rfl
 .rw [aG m,aG λh=>m h.wd];rfl
end
section
open Go.PF Go.RowKit Go.Ord
attribute [local irreducible] TW CW KW DW
def Yc (w:World) (k:FuncId) (caps:List Value) (L:List (List Int)) (p:List Int->Bool):Prop:= ∀r∈L,∀(rv:Value) (w':World),ZT w w'->SL aT (λk=>k<w.heap.size) w' rv r ->
 Gives prog k (rv::caps).toArray w' λu w''=>ZT w' w''/\u= .bool (p r)
def Ib (w:World) (k:FuncId) (caps:List Value) (L:List (List Ev)) (p:List Ev->Bool):Prop:= ∀r∈L,∀(rv:Value) (w':World),ZT w w'->SL evT (λk=>k<w.heap.size) w' rv r ->
 Gives prog k (rv::caps).toArray w' λu w''=>ZT w' w''/\u= .bool (p r)
theorem KA (hl:SL (sliceT evT) (λk=>k<w.heap.size) w v L) (B:enters prog k=true) (hp:Ib w k caps L p) :
  Gives prog 263 #[v,.func (.func k) #[] caps.toArray] w λx s=>ZT w s/\((x= ZU (-1)/\L.any p=false)\/ ∃i:Nat,x= ZU (i:Int)/\L.any p=true):=by
 obtain ⟨A,t,rfl,_⟩:=hl.form;have q:L.length<=9223372036854775807:=hl.len.2.2;refine gv func263 ntmps263 ?_;refine aB ?_;refine dC [0,1,7] (λi:Nat=> [(8,none,ZU (i:Int))])
  (λi W=>i<=L.length/\ZT w W/\(L.take i).any p=false) (λi=>L.length-i) 0 ⟨ZB,ZA,rfl⟩ ?_
 rintro i W ⟨C,c,a⟩;refine aB ?_;refine aI rfl (λu=> ?_) (λy=> ?_)
 .have o:i<L.length:=ZJ;have d:=hl.below c;obtain ⟨D,rfl⟩:=d.addr ZJ;obtain ⟨e,r,g⟩:=eT (l:=L) (k:=i) o;obtain ⟨z,b,h⟩:=d.row r;refine aB ?_;refine aH rfl b ?_;refine fH rfl rfl B rfl (aA rfl ct aJ) (hp e g z _ c h) ?_;rintro E F ⟨j,rfl⟩;refine aB ?_;refine aK rfl (λm=> ?_) (λn=> ?_)
  .refine aB ?_;refine aO rfl ⟨c.step j,.inr ⟨i,rfl,?_⟩⟩;rw [List.any_eq_true];exact ⟨e,g,m⟩
  .refine aB ?_;refine dB (i+1) ⟨ZJ,c.step j,?_⟩;rw [ZG,List.any_append,a,r];simp [n]
 .refine aB ?_;refine aO rfl ⟨c,.inl ⟨rfl,?_⟩⟩;rw [show i=L.length by omega,List.take_length] at a;exact a
theorem Mo (hl:SL (sliceT evT) (λk=>k<w.heap.size) w v L) (e:enters prog k=true) (hp:Ib w k caps L p) :
  Gives prog 180 #[v,.func (.func k) #[] caps.toArray] w λx c=>ZT w c/\x= .bool (L.any p):=by
 obtain ⟨A,d,rfl,_⟩:=hl.form;refine gv func180 ntmps180 ?_;refine aB ?_;refine aM rfl (KA hl e hp) ?_;rintro g h ⟨a,b⟩;rcases b with ⟨rfl,b⟩|⟨i,rfl,b⟩
 .skip
  refine aB ?_;refine aO rfl ⟨a,by rw [b]; rfl⟩
 .skip
  refine aB ?_;refine aO rfl ⟨a,by rw [b]; simp⟩
end
section
open Go.PF Go.RowKit Go.Ord
end
end Go.Proofs.YtoleahhfkpkcjaaGreatDoor
namespace Go.Ord
section
variable {d:bD}
def CF (o f t:Int):Ev:=⟨o,f,t,[]⟩
def Ww (d:bD) (x:ET) (o τ:Int):Prop:=at2 d x.1.office.toNat o.toNat≠ -1/\at2 d x.1.office.toNat o.toNat<=τ-x.2
def WT (d:bD) (o τ:Int) (x:ET):Prop:=at2 d o.toNat x.1.office.toNat≠ -1/\at2 d o.toNat x.1.office.toNat<=x.2-τ
def PV (d:bD) (rest:List Ev) (o τ:Int):Prop:=0<=τ/\τ<=1000000/\ ∃l:List ET,l.map (·.1)=rest/\HoldsN d l/\ ∀x∈l,Ww d x o τ\/WT d o τ x
theorem MR {rest:List Ev} {o f:Int}:Poss d (rest++ [CF o f t])↔ ∃τ,f<=τ/\τ<=t/\PV d rest o τ:=by
 constructor
 .rintro ⟨l,i,h⟩;obtain ⟨m,j,rfl,k,b⟩:=List.map_eq_append_iff.1 i;obtain ⟨y,rfl,c⟩: ∃y,j= [y]/\y.1=CF o f t:=by
   cases j with
   | nil=>simp at b
   | cons y j =>
    simp at b;exact ⟨y,by rw [b.2],b.1⟩
  have e:=h.each y ZM;rw [c] at e;obtain ⟨n,_,p⟩:=List.pairwise_append.1 h.two;refine ⟨y.2,e.2.2.1,e.2.2.2,e.1,e.2.1,m,k,⟨λx g=>h.each x (by simp [g]),n⟩,λx g=> ?_⟩;have:=p x g y ZM;unfold zu at this;rw [c] at this;exact this
 .rintro ⟨τ,k,b,q,r,l,rfl,i,g⟩;refine ⟨l++ [(CF o f t,τ)],ZM,⟨λx a=> ?_,List.pairwise_append.2 ⟨i.two,List.pairwise_singleton _ _,λx a y c=> ?_⟩⟩⟩
  .rcases ZH a with a|a
   .exact i.each x a
   .rw [List.mem_singleton] at a;subst a;exact ⟨q,r,k,b⟩
  .rw [List.mem_singleton] at c;subst c;exact g x a
theorem HoldsN.sub {l l':List ET} (h:HoldsN d l) (hs:l'.Sublist l):HoldsN d l':=⟨λx a=>h.each x (hs.subset a),h.two.sublist hs⟩
theorem wI {α β:Type} {f:α->β}: ∀ {l:List α} {m:List β},m.Sublist (l.map f)-> ∃a:List α,a.Sublist l/\a.map f=m
 | [],m,h=>⟨[],List.Sublist.refl _,by simp at h; rw [h]; rfl⟩
 | x::l,m,h=>by
  rw [List.map_cons] at h
  cases h with
  | cons _ h =>
   obtain ⟨a,b,c⟩:=wI h
   exact ⟨a,b.cons _,c⟩
  | cons_cons _ h =>
   obtain ⟨a,b,c⟩:=wI h;exact ⟨x::a,b.cons_cons _,by simp [c]⟩
theorem PV.sub {rest rest':List Ev} {o τ:Int} (h:PV d rest o τ) (hs:rest'.Sublist rest):PV d rest' o τ:=by
 obtain ⟨b,c,l,rfl,e,f⟩:=h;obtain ⟨g,a,i⟩:=wI hs;exact ⟨b,c,g,i,e.sub a,λx j=>f x (a.subset j)⟩
theorem xL {α β:Type} {f:α->β}: ∀ {m:List β} {l:List α},(l.map f).Perm m-> ∃d:List α,d.Perm l/\d.map f=m
 | [],l,h=>by
  have:l= []:=by have:=h.length_eq; simp at this; exact this
  subst this
  exact ⟨[],List.Perm.refl _,rfl⟩
 | e::m,l,h=>by
  have g:e∈l.map f:=h.mem_iff.2 ZM;obtain ⟨x,i,rfl⟩:=List.mem_map.1 g;obtain ⟨c,b,rfl⟩:=List.append_of_mem i;have j:((c++b).map f).Perm m:=by
   have q:((c++x::b).map f).Perm (f x::(c++b).map f):=(List.perm_middle (a:=x) (l₁:=c) (l₂:=b)).map f;exact List.Perm.cons_inv (q.symm.trans h)
  obtain ⟨d,k,n⟩:=xL j;exact ⟨x::d,(k.cons x).trans List.perm_middle.symm,by simp [n]⟩
theorem HoldsN.perm {l l':List ET} (h:HoldsN d l) (hp:l'.Perm l):HoldsN d l':=⟨λx a=>h.each x (hp.mem_iff.1 a),iy hp.symm h.two⟩
theorem PV.perm {rest rest':List Ev} {o τ:Int} (h:PV d rest o τ) (hp:rest.Perm rest'):PV d rest' o τ:=by
 obtain ⟨b,c,l,rfl,e,f⟩:=h;obtain ⟨g,a,i⟩:=xL hp;exact ⟨b,c,g,i,e.perm a,λx j=>f x (a.mem_iff.1 j)⟩
theorem PossJ.sub {rest rest':List Ev} {a b:Ev} {g:Int} (h:PossJ d rest a b g) (hs:rest'.Sublist rest):PossJ d rest' a b g:=by
 obtain ⟨e,l,t,rfl,f,i,j,k⟩:=h;obtain ⟨m,c,n⟩:=wI hs;exact ⟨e,m,t,n,f.sub c,i,j,λx o=>k x (c.subset o)⟩
theorem PossJ.perm {rest rest':List Ev} {a b:Ev} {g:Int} (h:PossJ d rest a b g) (hp:rest.Perm rest'):PossJ d rest' a b g:=by
 obtain ⟨e,l,t,rfl,f,i,j,k⟩:=h;obtain ⟨m,c,n⟩:=xL hp;exact ⟨e,m,t,n,f.perm c,i,j,λx o=>k x (c.mem_iff.1 o)⟩
end
end Go.Ord
namespace Go.Proofs.YtoleahhfkpkcjaaGreatDoor
open Go.Proofs.Tryz
open Go.PF Go.RowKit Go.Ord
abbrev Cm:=Int×Int
def eD (l:List Ev) (ws:List (List Int)):List (List Ev):=ws.map (bL l)
def Bj (l:Li) (t:Int):Ev:=⟨l.frm,t-l.trav+1,t-1,[]⟩
def BX (l:Li) (t:Int):Ev:=⟨l.to,t+1,t+l.trav-1,[]⟩
inductive Knd
 | at (o f t:Int)
 | on (l:Li) (t:Int)
def Knd.more:Knd->List Ev
 | .at o f t=> [CF o f t]
 | .on l t=> [Bj l t,BX l t]
noncomputable def Knd.b (d:bD) (k:Knd) (r:List Ev):Bool:=match k with
 | .at o f t=>dec (kD d (r++ [CF o f t]))
 | .on l t=>dec (Jp d (r++ [Bj l t,BX l t]) r (Bj l t) (BX l t) l.trav)
noncomputable def uU (d:bD) (rs:List (List Ev)) (k:Knd):Bool:=rs.any (k.b d)
def Dq (n:Nat) (t:Int):List (Cm×Knd):=(List.range n).map λi:Nat=>(((i:Int),-1),.at (i:Int) t t)
def DL (ls:List Li) (t:Int):List (Cm×Knd):=ls.mapIdx λi l=>((-1,(i:Int)),.on l t)
def ru (N:Net) (t:Int):List (Cm×Knd):=Dq N.offs.length t++DL N.lines t
noncomputable def xh (N:Net) (d:bD) (rs:List (List Ev)) (t:Int):List Cm:=((ru N t).filter λp=>uU d rs p.2).map (·.1)
structure PossOK (N:Net) (d:bD) (l:List Ev) (nw:Nat) (t:Int):Prop where
 sound:SoundOK keys11 N
 fit:FitW d l nw
 same:d.length=N.offs.length
 t0:0<=t
 t1:t<=1000000
noncomputable def lI (N:Net) (d:bD) (l:List Ev) (ws:List (List Int)) (t:Int):List Cm:=if dec (PossOK N d l ws.length t)=true then xh N d (eD l ws) t else []
noncomputable def Xo (d:bD) (l:List Ev) (ws:List (List Int)) (o f t:Int):Bool:=dec (FitW d l ws.length)&&decide (0<=o/\o<(d.length:Int))&&uU d (eD l ws) (.at o f t)
def TS (o by_:Int) (e:Ev):Bool:=decide (e.office=o/\e.high<=by_)
def Yj (l:List Ev) (ws:List (List Int)) (o by_:Int):Bool:=decide (0<ws.length)&&ws.all λS=>(bL l S).any (TS o by_)
theorem qa (n:Nat) (t:Int):(Dq n t).length=n:=by simp [Dq]
theorem Kr (a:List Li) (t:Int):(DL a t).length=a.length:=by simp [DL]
theorem Na (h:i<n):(Dq n t)[i]?=some (((i:Int),-1),.at i t t):=by simp [Dq,h]
theorem Nr {ls:List Li} {l:Li} (h:ls[i]?=some l):(DL ls t)[i]?=some ((-1,(i:Int)),.on l t):=by simp [DL,List.getElem?_mapIdx,h]
theorem Dj (N:Net) (t:Int):(ru N t).length=N.offs.length+N.lines.length:=by simp [ru,qa,Kr]
theorem MU {N:Net} (h:i<N.offs.length):(ru N t)[i]?=some (((i:Int),-1),.at i t t):=by
 unfold ru;rw [List.getElem?_append_left (by rw [qa]; exact h),Na h]
theorem MV {N:Net} {l:Li} (h:N.lines[i]?=some l):(ru N t)[N.offs.length+i]?=some ((-1,(i:Int)),.on l t):=by
 unfold ru;rw [List.getElem?_append_right (by rw [qa]; omega),qa,show N.offs.length+i-N.offs.length=i by omega,Nr h]
def sptT:Ty Cm where
 n:=2
 rep:=λ_ _ cs s=>cs= [ZU s.1,ZU s.2]/\fE s.1/\fE s.2
 len:=λ_ _ _ _ h=>by rw [h.1]; rfl
 mono:=λ_ _ _ _ _ _ h=>h
 wider:=λ_ _ _ _ _ _ h=>h
def AY (s:Cm):List Value:= [ZU s.1,ZU s.2]
abbrev SPs (w:World) (v:Value) (l:List Cm):Prop:=SL sptT (λk=>k<w.heap.size) w v l
theorem SPs.get {ad:Addr} {cap:Nat} {l:List Cm} (h:SL sptT F w (.slice (some ad) n cap) l) {s:Cm} (f:l[i]?=some s) :
  (∀j u,(AY s)[j]?=some u->w.cell? ((ad.add ((i:Int).toNat*2)).add j)=some u)/\fE s.1/\fE s.2:=by
 obtain ⟨a,g,b,_,⟨rfl,c,d⟩,e⟩:=h.at f;cases b;exact ⟨e,c,d⟩
section
variable {φ:Nat->Nat} {d:bD}
theorem eok_ren {e:Ev}:EOK d (eQ φ e)↔EOK d e:=⟨λh=>⟨h.o1,h.o2⟩,λh=>⟨h.o1,h.o2⟩⟩
theorem Ik {m:List Ev}:WfE d (l.map (eQ φ)++m)↔WfE d (l++m):=by
 have b:(∀e∈l.map (eQ φ)++m,EOK d e)↔ ∀e∈l++m,EOK d e:=by
  simp only [List.mem_append,List.mem_map];constructor
  .rintro h e (a|a)
   .exact eok_ren.1 (h _ (.inl ⟨e,a,rfl⟩))
   .exact h e (.inr a)
  .rintro h e (⟨f,c,rfl⟩|a)
   .exact eok_ren.2 (h f (.inl c))
   .exact h e (.inr a)
 constructor
 .exact λh=>⟨h.wd,by have:=h.few; simpa using this,b.1 h.each⟩
 .exact λh=>⟨h.wd,by have:=h.few; simpa using this,b.2 h.each⟩
theorem xC {a b:List Ev} {x y:Ev} {g:Int} (h:a.map fF=b.map fF) (hp:PossJ d a x y g):PossJ d b x y g:=by
 obtain ⟨j,l,t,rfl,k,m,n,o⟩:=hp;obtain ⟨c,p,i⟩:=BP (a:=l) (b:=b) (by rw [<-h,List.map_map]; rfl);refine ⟨j,c,t,p,xY i k,m,n,λz q=> ?_⟩;have:(fF z.1,z.2)∈l.map (λx=>(fF x.1,x.2)):=by rw [<-i]; exact List.mem_map.2 ⟨z,q,rfl⟩
 obtain ⟨u,r,e⟩:=List.mem_map.1 this;simp only [Prod.mk.injEq] at e;have f:fF z.1=fF u.1/\z.2=u.2:=⟨e.1.symm,e.2.symm⟩;rw [tY f (⟨rfl,rfl⟩:fF (x,t).1=fF (x,t).1/\(x,t).2=(x,t).2),tY (⟨rfl,rfl⟩:fF (y,t+g).1=fF (y,t+g).1/\(y,t+g).2=(y,t+g).2) f];exact o u r
theorem QL (k:Knd) (r:List Ev):k.b d (r.map (eQ φ))=k.b d r:=by
 cases k with
 | «at» o f t =>
  refine bH (and_congr Ik ?_);have:(r.map (eQ φ)++ [CF o f t]).map fF=(r++ [CF o f t]).map fF:=by rw [List.map_append,List.map_append,pz]
  exact ⟨p9 this,p9 this.symm⟩
 | on l t =>
  exact bH (and_congr Ik ⟨xC (pz r),xC (pz r).symm⟩)
theorem Q9 (h: ∀i j,i<j->φ i<φ j) (c: ∀e∈l,∀n∈e.needs,0<=n) (f: ∀S∈ws,∀n∈S,0<=n) (k:Knd):uU d (eD (l.map (eQ φ)) (ws.map (dI φ))) k=uU d (eD l ws) k:=by
 unfold uU eD;rw [List.map_map,List.any_map,List.any_map,Bool.eq_iff_iff,List.any_eq_true,List.any_eq_true];refine exists_congr λS=>and_congr_right λa=> ?_;show k.b d (bL (l.map (eQ φ)) (dI φ S))=true↔k.b d (bL l S)=true;rw [xA h c (f S a),QL]
theorem wu (h: ∀i j,i<j->φ i<φ j) {N:Net} (g: ∀e∈l,∀n∈e.needs,0<=n) (k: ∀S∈ws,∀n∈S,0<=n) (t:Int):lI N d (l.map (eQ φ)) (ws.map (dI φ)) t=lI N d l ws t:=by
  have a: ∀n,FitW d (l.map (eQ φ)) n↔FitW d l n:=λn =>
    ⟨λq=>⟨by have:=q.few; simpa using this,q.worlds,q.wd,λe b=>eok_ren.1 (q.each _ (List.mem_map_of_mem b))⟩,
     λq=>⟨by have:=q.few; simpa using this,q.worlds,q.wd,λe b=>by obtain ⟨f,a,rfl⟩:=List.mem_map.1 b; exact eok_ren.2 (q.each f a)⟩⟩
  have c:PossOK N d (l.map (eQ φ)) (ws.map (dI φ)).length t↔PossOK N d l ws.length t:=by
    rw [List.length_map];exact ⟨λq=>⟨q.sound,(a _).1 q.fit,q.same,q.t0,q.t1⟩,λq=>⟨q.sound,(a _).2 q.fit,q.same,q.t0,q.t1⟩⟩
  unfold lI xh;rw [bH c];simp only [Q9 h g k]
end
attribute [local irreducible] TW CW KW DW
def Idx (w:World) (k:FuncId) (cap:List Value) (φ:Nat->Nat) (b:Nat):Prop:=enters prog k=true/\ ∀(n:Nat) w',ZT w w'->n<b->Gives prog k (ZU (n:Int)::cap).toArray w' λu w''=>ZT w' w''/\u= ZU ((φ n:Nat):Int)
theorem Idx.step {w w':World} {k:FuncId} {cap:List Value} {φ:Nat->Nat} {b:Nat} (h:Idx w k cap φ b) (hb:ZT w w'):Idx w' k cap φ b:=⟨h.1,λn a c d=>h.2 n a (hb.step c) d⟩
theorem P4 {p:Nat} (b:Blk w g 3 [ZU (p:Int)]) (hn:n<1000000):Gives prog 120 #[ZU (n:Int),.pointer (some ⟨g,0,none⟩)] w λu a=>ZT w a/\u= ZU ((sh p n:Nat):Int):=by
 refine gw func120 ntmps120 ?_;refine cd rfl (λh=> ?_) λh=> ?_
 .exact aO rfl ⟨bP,by unfold sh; rw [if_neg ZJ]; rfl⟩
 exact aO rfl ⟨bP,by unfold sh; rw [if_pos ZJ]⟩
theorem Te:Gives prog 49 #[ZU (n:Int)] w λu a=>ZT w a/\u= ZU ((n:Nat):Int):=by
 refine gw func49 ntmps49 ?_;exact aO rfl ⟨bP,rfl⟩
theorem Nf {l:List Int} {b:Nat} (hl:SL aT F w v l) (hs:l.length<=1000000) (L:Blk w g 104 [.func (.func k) #[] cap.toArray]) (y:Idx w k cap φ b) (z: ∀n∈l,0<=n/\n<(b:Int)) (M: ∀n,n<b->φ n<=1000000) :
  Gives prog 104 #[v,.pointer (some ⟨g,0,none⟩)] w λu o=>ZT w o/\SL aT (λk=>w.heap.size<=k/\k<o.heap.size) o u (dI φ l):=by
 obtain ⟨A,c,rfl,_⟩:=hl.form;refine gw func104 ntmps104 ?_;refine uu rfl rfl (Cu jH UI rfl) rfl rfl ZJ ZJ ?_;intro s N h;refine rn ?_;have O:=h.at_;have R:=h.size;have B:=L.lt;refine dC [1,4,10,11] (λi:Nat=> [(12,none,ZU (i:Int))])
  (λi W=>i<=l.length/\ZT w W/\Blk W s 3 ((dI φ (l.take i)).map (.int .i64)++List.replicate (l.length-i) (ZU 0))) (λi=>l.length-i) 0 ⟨ZB,h.below,by simpa [dI] using h.blk⟩ ?_
 rintro i W ⟨S,p,j⟩;refine rn ?_;refine cd rfl (λC=> ?_) λD=> ?_
 .have a:i<l.length:=ZJ;have E:=z l[i] (List.getElem_mem a);obtain ⟨n,m⟩: ∃n:Nat,l[i]=(n:Int):=⟨l[i].toNat,ZJ⟩;have q:n<b:=ZJ;refine Uj y.1 rfl (vs:= [ZU l[i]]) (m ▸ (y.step p).2 n W ZA q) λU t=> ?_;refine sf rfl (j.next t) (hj:=by simp [dI]; omega) λY d r G=> ?_;refine dB (i+1) ⟨a,But.below (p.step t) r ZJ,?_⟩;have e:((dI φ (l.take i)).map (Value.int .i64)++List.replicate (l.length-i) (Value.int .i64 0)).set (((i:Nat):Int).toNat*1) (Value.int .i64 ((φ n:Nat):Int))=(dI φ (l.take (i+1))).map (.int .i64)++List.replicate (l.length-(i+1)) (Value.int .i64 0):=by
   show List.set _ (i*1) _=_;have H:((dI φ (l.take i)).map (Value.int .i64)).length=i:=by simp [dI]; omega
   rw [Nat.mul_one,List.set_append_right _ _ ZJ,H,Nat.sub_self,show l.length-i=(l.length-(i+1))+1 by omega,List.replicate_succ,List.set_cons_zero,ZG,ZD a];simp [dI,m]
  rw [e] at d;exact d
 .have a:i=l.length:=ZJ;subst a;refine aO rfl ⟨p,?_⟩;rw [List.take_length,Nat.sub_self,List.replicate_zero,List.append_nil] at j;have I:OwnS W 3 1 (.slice (some ⟨s,0,none⟩) l.length l.length) (dI φ l).length ((dI φ l).map (.int .i64)):=by
   have:=aV (sz:=1) (n:=l.length) j (by simp [dI]) ZJ
   rwa [show (dI φ l).length=l.length from List.length_map ..]
  refine dU I (λx J=> ?_) (λg K=>by simp [Value.ownBlock] at K; have:=j.lt; omega) (by simp [dI]; omega);obtain ⟨n,m,rfl⟩:=mem_renI.1 J;have:=z n m;have:=M n.toNat ZJ;unfold fE; omega
structure Ans where
 evs:List Ev
 ws:List (List Int)
 err:Int
def Ans.ren (φ:Nat->Nat) (a:Ans):Ans:=⟨a.evs.map (eQ φ),a.ws.map (dI φ),a.err⟩
def RepA (F:Nat->Prop) (w:World) (cs:List Value) (a:Ans):Prop:= ∃ev wv,cs= [ev,wv,ZU a.err]/\SL evT F w ev a.evs/\SL (sliceT aT) F w wv a.ws
theorem RepA.mono {F:Nat->Prop} {w w':World} {cs:List Value} {a:Ans} (h:RepA F w cs a) (b:Kept F w w'):RepA F w' cs a:=by
 obtain ⟨c,d,e,f,g⟩:=h;exact ⟨c,d,e,f.mono b,g.mono b⟩
theorem RepA.wider {F G:Nat->Prop} {w:World} {cs:List Value} {a:Ans} (h:RepA F w cs a) (b: ∀k,F k->G k):RepA G w cs a:=by
 obtain ⟨c,d,e,f,g⟩:=h;exact ⟨c,d,e,f.wider b,g.wider b⟩
structure Ans.Fine (a:Ans) (b:Nat):Prop where
 e:a.evs.length<=14
 n: ∀x∈a.evs,x.needs.length<=1000000/\ ∀n∈x.needs,0<=n/\n<(b:Int)
 w:a.ws.length<=1000000
 s: ∀x∈a.ws,x.length<=1000000/\ ∀n∈x,0<=n/\n<(b:Int)
 b:b<=1000000
theorem DC {cs:List Value} {a:Ans} {b:Nat} (hA:RepA F w cs a) (hf:a.Fine b) (hk:Idx w k cap φ b) (hφ: ∀n,n<b->φ n<=1000000) :
  Gives prog 48 #[.agg cs.toArray,.func (.func k) #[] cap.toArray] w λu w'=>ZT w w'/\ ∃cs',u= .agg cs'.toArray/\RepA (λk=>w.heap.size<=k/\k<w'.heap.size) w' cs' (a.ren φ):=by
 obtain ⟨ev,wv,rfl,hE,hW⟩:=hA
 replace hE:=hE.now BJ
 replace hW:=hW.now (rf jG)
 obtain ⟨A,ac,rfl,_⟩:=hE.form;obtain ⟨B,bc,rfl,_⟩:=hW.form;refine gw func48 ntmps48 ?_;refine nw rfl λg2 w2 f2=> ?_;refine nw rfl λg3 w3 f3=> ?_;refine na qL λg4 w4 f4=> ?_;refine eG [.slice none 0 0,.slice none 0 0,ZU a.err] rfl ?_;refine nv qL rfl λg6 w6 f6=> ?_;have q2:=f2.at_;have q3:=f3.at_;have q4:=f4.at_;have q6:=f6.at_;have z2:=f2.size;have z3:=f3.size;have z4:=f4.size;have z6:=f6.size;refine dC [2,4,5,6,16,17] (λx:Nat×Value×List (List Value×Ev)=> [(18,none,ZU (x.1:Int))])
  (λx W=>x.1<=a.evs.length/\ZT w4 W/\w6.heap.size<=W.heap.size/\Blk W g6 101 [x.2.1,.slice none 0 0,ZU a.err]/\RowB evT W 68 w6.heap.size x.2.1 x.2.2/\x.2.2.map (·.2)=(a.evs.take x.1).map (eQ φ)) (λx=>a.evs.length-x.1) (0,.slice none 0 0,[]) ⟨ZB,f6.below,ZC,f6.blk,RowB.nil _ _ _ _,rfl⟩ ?_
 have h14:=hf.e;rintro ⟨i,rv,ps⟩ W ⟨hi,hB4,hsz,hB6,hR,hps⟩;dsimp only at hi hB6 hR hps;have hl:ps.length=i:=by
  have:=congrArg List.length hps;simp at this; omega
 refine rn ?_;refine cd rfl (λhlt=> ?_) λhge=> ?_
 .have hil:i<a.evs.length:=by dsimp only at hlt; omega
  obtain ⟨ad,rfl⟩:=hE.addr ZJ;have hx:a.evs[i]?=some a.evs[i]:=ZD hil;have hfe:=hf.n a.evs[i] (List.getElem_mem hil);have hEW:SL evT _ W _ _:=hE.below tr;obtain ⟨nd,hcells,i1,i2,i3,hN⟩:=SE.get hEW hx;obtain ⟨ND,ndc,rfl,_⟩:=hN.form;refine rn ?_;refine nv uE rfl λg8 w8 f8=> ?_;have q8:=f8.at_;have z8:=f8.size;refine Yu ZK rfl (vs:= [_]) (cap:= [.pointer (some ⟨g3,0,none⟩)]) (Nf (hN.below f8.below) hfe.1 tr (hk.step tr) hfe.2 hφ) λu w9 b9 hu=> ?_;have z9:=b9.size;obtain ⟨U,uc,rfl,_⟩:=hu.form;refine sf rfl (f8.blk.next b9) λw10 hB10 hb10 hs10=> ?_;have hW10:ZT W w10:=bP;have hu10:=SL.mono hu (w':=w10) (Kept.of_blocks λk hk hlt=>hb10.block k hlt (λe=>by cases e; omega));have hro: ∀k,rv.ownBlock=some k->k<W.heap.size:=λk hk=>hR.1.lt hk;refine ra (T:=evT) (a:=eQ φ a.evs[i]) BE G6 rfl (hR.step hW10) ⟨_,rfl,i1,i2,i3,hu10.wider λk hk=>⟨ZJ,ZJ,λe=>by have:=hro k e; omega⟩⟩ rfl ZJ ZJ λg11 rv' w11 hR11 hg11 hn11 h11=> ?_;have hB6':Blk w11 g6 _ _:=GB.blk hg11 (hB6.next hW10) (λe=>by have:=hR.2.2 _ e; omega);refine sf rfl hB6' λw12 hB12 hb12 hs12=> ?_;have hb11:ZT w4 w11:=Below.grown (hB4.step hW10) hg11 (by have:=hB4.size; have:=hW10.size; omega) (λk hk=>by have:=hR.2.2 k hk; omega)
  have z11:=hg11.size;refine dB (i+1,rv',ps++ [([ZU a.evs[i].office,ZU a.evs[i].low,ZU a.evs[i].high,.slice U (dI φ a.evs[i].needs).length uc],eQ φ a.evs[i])]) ⟨hil,But.below hb11 hb12 ZJ,ZJ,hB12,?_,?_⟩
  .exact hR11.but hb12 ZJ
  .show (ps++ [_]).map _=(a.evs.take (i+1)).map _;rw [List.map_append,hps,ZG,hx,List.map_append];rfl
 have hil:i=a.evs.length:=by dsimp only at hge; omega
 subst hil;have hEv:SL evT (λk=>w6.heap.size<=k/\k<W.heap.size) W rv (a.evs.map (eQ φ)):=by
  have:=hR.sl ZL;rw [hps,List.take_length] at this;exact this
 refine dC [4,5,6,35,36] (λx:Nat×Value×List (List Value×List Int)=> [(37,none,ZU (x.1:Int))])
  (λx W2=>x.1<=a.ws.length/\ZT w4 W2/\W.heap.size<=W2.heap.size/\Blk W2 g6 101 [rv,x.2.1,ZU a.err]/\SL evT (λk=>w6.heap.size<=k/\k<W.heap.size) W2 rv (a.evs.map (eQ φ))/\RowB (sliceT aT) W2 66 W.heap.size x.2.1 x.2.2/\x.2.2.map (·.2)=(a.ws.take x.1).map (dI φ)) (λx=>a.ws.length-x.1) (0,.slice none 0 0,[]) ⟨ZB,hB4,ZC,hB6,hEv,RowB.nil _ _ _ _,rfl⟩ ?_
 have hm:=hf.w;rintro ⟨j,rv2,ps2⟩ W2 ⟨hj,hC4,hsz2,hC6,hEv2,hR2,hps2⟩;dsimp only at hj hC6 hR2 hps2;have hl2:ps2.length=j:=by
  have:=congrArg List.length hps2;simp at this; omega
 refine rn ?_;refine cd rfl (λhlt=> ?_) λhge=> ?_
 .have hjl:j<a.ws.length:=by dsimp only at hlt; omega
  obtain ⟨bd,rfl⟩:=hW.addr ZJ;have hx:a.ws[j]?=some a.ws[j]:=ZD hjl;have hfs:=hf.s a.ws[j] (List.getElem_mem hjl);have hWW:SL (sliceT aT) _ W2 _ _:=hW.below tr;obtain ⟨sv,hcell,hsl⟩:=SL.row hWW hx;have hlo: ∀k,rv2.ownBlock=some k->W.heap.size<=k:=hR2.2.2;have hro: ∀k,rv2.ownBlock=some k->k<W2.heap.size:=λk hk=>hR2.1.lt hk;have hw4:w.heap.size<=W.heap.size:=ZJ;refine rn ?_;refine dV mixed λW3 hW3=> ?_;refine kz rv2.ownBlock 47 8 ZK ZK rfl rfl hW3 ?_;refine bV rfl rfl if101_1.q rfl ct ?_;refine iq rfl rfl io40.q rfl ct (λ_=>⟨hC6.fld rfl,λe=>by have:=hlo _ e; rw [eO] at this; dsimp only at this; omega⟩) ?_;refine fZ rfl rfl rfl ct ?_;refine fZ rfl rfl rfl ct ?_;have hgk: ∀ {u w1 w2},w1.grownBy w2 rv2.ownBlock->SL aT (λk=>W2.heap.size<=k/\k<w1.heap.size/\rv2.ownBlock≠some k) w1 u (dI φ a.ws[j])->SL aT (λk=>W2.heap.size<=k/\k<w2.heap.size/\rv2.ownBlock≠some k) w2 u (dI φ a.ws[j]):=λhg h=>(SL.mono h (Kept.of_blocks λk hk hlt=>hg.block k hlt λe=>hk.2.2 e.symm)).wider λk hk=>⟨hk.1,Nat.lt_of_lt_of_le hk.2.1 hg.size,hk.2.2⟩
  refine Fj (cap:= [.pointer (some ⟨g3,0,none⟩)]) (λu w'=>SL aT (λk=>W2.heap.size<=k/\k<w'.heap.size/\rv2.ownBlock≠some k) w' u (dI φ a.ws[j])) (λu w1 w2 hg h=>hgk hg h) rfl rfl ZK rfl ct (bO rfl ct dE) (λ_ w' hg=> ?_) ?_
  .have h3:Blk w' g3 _ _:=GB.blk hg (tr:Blk W2 g3 _ [.func (.func k) #[] cap.toArray]) (λe=>by have:=hlo _ e; omega);have hbw:ZT w w':=Below.grown (bP:ZT w W2) hg (by have:=hC4.size; omega) (λk hk=>by have:=hlo k hk; omega);refine (Nf (F:=λk=>k<w.heap.size) (hsl.mono (Kept.of_blocks λk hk hlt=>hg.block k hlt λe=>by have:=hlo k e.symm; omega)) hfs.1 h3 (hk.step hbw) hfs.2 hφ).mono λu w'' ⟨q1,q2⟩=>⟨q1,q2.wider λk hk=>⟨Nat.le_trans hg.size hk.1,hk.2,λe=>by have:=hro k e; have:=hg.size; omega⟩⟩
  refine pU 66 [_] (λu w'=> ∃g nv,u= .slice (some ⟨g,0,none⟩) 1 1/\Blk w' g 66 [nv]/\W2.heap.size<=g/\SL aT (λk=>W2.heap.size<=k/\k<w'.heap.size/\rv2.ownBlock≠some k) w' nv (dI φ a.ws[j]))
   (λu w1 w2 hg ⟨g,nv,e,h1,h2,h3⟩=>⟨g,nv,e,GB.blk hg h1 (λe=>by have:=hro _ e; omega),h2,hgk hg h3⟩) rfl rfl rfl Q5 (bN rfl ct gP) rfl rfl rfl (λ_ vs w' hg hs=> ?_) ?_
  .obtain ⟨u,rfl,hu⟩:=Sats.one hs;obtain ⟨U,uc,rfl,_⟩:=SL.form (T:=aT) (F:=λk=>W2.heap.size<=k/\k<w'.heap.size/\rv2.ownBlock≠some k) (w:=w') (l:=dI φ a.ws[j]) hu;exact ⟨λv hv=>by simp at hv; subst hv; rfl,λg w'' f=>⟨g,_,rfl,f.blk,Nat.le_trans hg.size (Nat.le_of_eq f.at_.symm),hgk (GB.of_below f.below) hu⟩⟩
  refine Ii (m:=1) _ (λv w'=> ∃nv,OwnS w' 66 1 v (ps2.length+1) (ps2.flatMap (·.1)++ [nv])/\(v.ownBlock=rv2.ownBlock\/ ∃k,v.ownBlock=some k/\W2.heap.size<=k)/\SL aT (λk=>W2.heap.size<=k/\k<w'.heap.size/\v.ownBlock≠some k) w' nv (dI φ a.ws[j]))
   (λv w1 w2 hb ⟨nv,h1,h2,h3⟩=>⟨nv,h1.below hb,h2,(h3.below hb).wider λk hk=>⟨hk.1,Nat.lt_of_lt_of_le hk.2.1 hb.size,hk.2.2⟩⟩) rfl rfl rfl QU rfl hR2.1 rfl rfl ZJ ZJ (λu w' hg ⟨g,nv,e,h1,h2,h3⟩=> ?_) ?_
  .obtain ⟨U,uc,rfl,_⟩:=SL.form h3;refine ⟨g,[_],e,h1,rfl,λu hu=>by simp at hu; subst hu; rfl,λv' w'' hg' hO hn=>⟨_,hO,hn.imp id λh=>⟨_,h,hg.size⟩,(SL.mono h3 (Kept.of_blocks λk hk hlt=>hg'.block k hlt λe=>hk.2.2 e.symm)).wider λk hk=>⟨hk.1,Nat.lt_of_lt_of_le hk.2.1 hg'.size,λe=> ?_⟩⟩⟩;rcases hn with h|h
   .exact hk.2.2 (by rw [<-h]; exact e)
   .rw [h] at e; cases e; exact absurd hk.2.1 (Nat.lt_irrefl _)
  refine bV rfl rfl if101_1.q rfl ct ?_;refine vg (qC [4,5,6,35,36,37,48] _ rfl [47] rfl λvs w8 hg8 hs8=>gF ?_);obtain ⟨v47,rfl,nv',hO8,hn8,hsl8⟩:=Sats.one hs8;refine dX ZK ZK rfl ?_;have hR8:RowB (sliceT aT) w8 66 W.heap.size v47 (ps2++ [([nv'],dI φ a.ws[j])]):=LA hR2 hO8 hg8 hn8 ⟨_,rfl,hsl8.wider λk hk=>⟨ZJ,hk.2.1,hk.2.2⟩⟩ hsz2;have hC6':Blk w8 g6 _ _:=GB.blk hg8 hC6 (λe=>by have:=hlo _ e; omega);have h47:v47.oneCell'=true:=by
   obtain ⟨A,c,e,_⟩:=hR8.1.form;rw [e]; rfl
  have z8:=hg8.size;refine sf rfl hC6' λw9 hB9 hb9 hs9=> ?_;have hb8:ZT w4 w8:=hC4.grown hg8 hC4.size (λk hk=>by have:=hlo k hk; have:=hB4.size; omega);refine dB (j+1,v47,ps2++ [([nv'],dI φ a.ws[j])]) ⟨hjl,But.below hb8 hb9 ZJ,ZJ,hB9,?_,hR8.but hb9 ZJ,?_⟩
  .exact (hEv2.mono (Kept.of_blocks λk hk hlt=>hg8.block k hlt λe=>by have:=hlo k e.symm; omega)).mono (Kept.of_blocks λk hk hlt=>hb9.block k hlt λe=>by cases e; omega)
  .show (ps2++ [_]).map _=(a.ws.take (j+1)).map _;rw [List.map_append,hps2,ZG,hx,List.map_append];rfl
 have hjl:j=a.ws.length:=by dsimp only at hge; omega
 subst hjl;have hW2:SL (sliceT aT) (λk=>W.heap.size<=k/\k<W2.heap.size) W2 rv2 (a.ws.map (dI φ)):=by
  have:=hR2.sl ZL;rw [hps2,List.take_length] at this;exact this
 obtain ⟨A2,c2,rfl,_⟩:=hEv2.form;obtain ⟨A3,c3,rfl,_⟩:=hW2.form;refine sb rfl (tr:Blk W2 g4 _ [.slice none 0 0,.slice none 0 0,ZU 0]) λw9 hB9 hb9 hs9=> ?_;have k9: ∀(G:Nat->Prop),(∀k,G k->w6.heap.size<=k)->Kept G W2 w9:=λG hG=>Kept.of_blocks λk hk hlt=>hb9.block k hlt λe=>by cases e; have:=hG _ hk; omega
 refine rc rfl hB9 ⟨But.below (bP:ZT w W2) hb9 ZJ,_,rfl,_,_,rfl,(hEv2.mono (k9 _ λk hk=>hk.1)).wider λk hk=>⟨ZJ,ZJ⟩,(hW2.mono (k9 _ λk hk=>ZJ)).wider λk hk=>⟨ZJ,ZJ⟩⟩
end Go.Proofs.YtoleahhfkpkcjaaGreatDoor
