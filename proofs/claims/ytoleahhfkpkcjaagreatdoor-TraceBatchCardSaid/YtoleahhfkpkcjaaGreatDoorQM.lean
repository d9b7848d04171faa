/- Texts of this claim,joined. -/
import Derived.Test.YtoleahhfkpkcjaaGreatDoorQL
import Derived.Lib.RowBridge
set_option linter.unusedSimpArgs false
set_option linter.unusedVariables false
set_option maxRecDepth 100000
set_option maxHeartbeats 4000000
variable {l:List Go.Ord.Ev} {w:Go.World} {F:Nat->Prop} {d:Go.Ord.bG} {v dv lv:Go.Value} {S zs:List Int} {most t:Int} {lab:ByteArray} {k:Go.FuncId} {q:List Int->Bool} {caps cap:List Go.Value} {r:List Go.Ord.Rc} {p:List Go.Ord.Ev->Bool} {L:List (List Go.Ord.Ev)} {i n g:Nat} {φ:Nat->Nat}
namespace Go.Proofs.YtoleahhfkpkcjaaGreatDoor
open Go.Proofs.Tryz
open Go.PF Go.RowKit Go.Ord
attribute [local irreducible] TW CW KW DW
theorem iK (l:List Int): ∀u∈l.map (Value.int .i64),u.oneCell'=true:=by
 intro u b;rw [List.mem_map] at b;obtain ⟨a,_,rfl⟩:=b;rfl
theorem _root_.Go.PF.SL.allI {l:List Int} (h:SL aS F w v l): ∀x∈l,fF x:=λx b=>by
 obtain ⟨j,c,a⟩:=List.getElem_of_mem b;exact h.rngI (by rw [<-a]; exact ZD c)
theorem AB {n:Int}: ∀ {l:List Int} {k:Nat},k<=l.length->Upto (· <n) l k->(∀x,l[k]?=some x-> ¬x<n)->insS n l=if l[k]?=some n then l else l.take k++n::l.drop k
 | [],k,a,_,_=>by
  simp [insS]
 | y::l,0,_,_,h=>by
  have b:=h y rfl;simp only [insS,if_neg b];by_cases e:y=n
  .simp
  .simp
 | y::l,k+1,a,d,h=>by
  have b:=d 0 y ZJ rfl;have f:=AB (by simpa using a) (λi x g c=>d (i+1) x ZJ (by simpa using c)) (λx c=>h x (by simpa using c));simp only [insS,if_pos b,f,List.getElem?_cons_succ,List.drop_succ_cons]
  split<;>simp
theorem De (n:Int): ∀l:List Int,(insS n l).length<=l.length+1
 | []=>by simp [insS]
 | y::l=>by
  have:=De n l;unfold insS
  split
  .simp; omega
  .split<;>simp
theorem Jg {l:List Int} {n:Int} (hl:SL aS F w v l) (hn:l.length<=1000000) (R:fF n):Gives prog 103 #[v,ZU n] w λu w'=>ZT w w'/\SL aS (λk=>F k\/w.heap.size<=k) w' u (insS n l):=by
 obtain ⟨A,z,rfl,a0⟩:=hl.form;have S:=hl.allI;refine gv func103 ntmps103 ?_;refine aB ?_;refine dA [0,1] (λk:Nat=> [(5,none,ZU (k:Int))])
  (λk W=>k<=l.length/\W=w/\Upto (· <n) l k) (λk=>l.length-k) 0 ⟨ZJ,rfl,Upto.zero⟩ ?_
 rintro k W ⟨hk,rfl,D⟩;by_cases U:k<l.length
 .obtain ⟨x,i,_⟩:=eP U;obtain ⟨q,rfl⟩:=hl.addr ZJ;refine aB ?_;refine aG rfl (hl.getI i) ?_;refine aB ?_;refine aK rfl (λB=> ?_) (λC=> ?_)
  .simp only [Bool.and_eq_true,decide_eq_true_eq] at B;refine aB ?_;refine cK (k+1) ⟨ZJ,rfl,D.succ i B.2⟩
  .have Y: ¬x<n:=by simp at C; omega
   have o:=AB hk D (λy p=>by rw [i] at p; cases p; exact Y);refine aB ?_;refine aG rfl (hl.getI i) ?_;refine aB ?_;refine aK rfl (λE=> ?_) (λM=> ?_)
   .have G:x=n:=by simp at E; omega
    rw [o,if_pos (by rw [i,G])];refine aB ?_;refine aO rfl ⟨ZA,hl.wider λ_ h=> .inl h⟩
   .have G: ¬x=n:=by simp at M; omega
    rw [o,if_neg (by rw [i]; simpa using G)];refine aB ?_;refine x8 mixed ZK ?_;refine lQ 3 rfl rfl kC ?_;refine jE ?_;refine bM lL rfl ⟨ct,ct,trivial⟩ (λ_=>by (try dsimp only); omega) ?_;have H: ∀(j:Nat) (u:Value),((l.take k).map (Value.int .i64))[j]?=some u-> ∃c:Addr,some q=some c/\W.cell? (c.add j)=some u:=by
     intro j u d;simp only [List.getElem?_map,List.getElem?_take] at d;by_cases N:j<k
     .rw [if_pos N] at d;obtain ⟨y,p,rfl⟩:=Option.map_eq_some_iff.1 d;obtain ⟨q,I,r,_⟩:=hl.int p;exact ⟨q,I,by rw [Nat.mul_one] at r; exact r⟩
     .rw [if_neg N] at d; simp at d
    refine jW (m:=k) (A:=some q) ((l.take k).map (Value.int .i64)) rfl rfl ji rfl ZK rfl ct H ZO (iK _) ZJ ZJ ?_;refine jE ?_;refine iN 3 _ rfl rfl rfl kC (cO rfl ct dR) rfl rfl rfl rfl rfl ?_;refine nY [ZU n] rfl rfl ji rfl ZK rfl ct (λu d=>by simp at d; subst d; rfl) ZJ ZJ rfl ?_;refine jE ?_;refine bM mW rfl ⟨ct,ct,trivial⟩ (λ_=>by (try dsimp only); omega) ?_;have J: ∀(j:Nat) (u:Value),((l.drop k).map (Value.int .i64))[j]?=some u-> ∃c:Addr,(if z=k then some q else (some q).map (λa:Addr=>a.add (k*1)))=some c/\W.cell? (c.add j)=some u:=by
     intro j u d;simp only [List.getElem?_map,List.getElem?_drop] at d;obtain ⟨y,p,rfl⟩:=Option.map_eq_some_iff.1 d;obtain ⟨q,I,r,_⟩:=hl.int p;have Z:=(ZE p).1;refine ⟨q.add (k*1),by rw [if_neg ZJ,I]; rfl,?_⟩;rw [Addr.add_add];rw [Nat.mul_one] at r ⊢;exact r
    refine jW (m:=l.length-k) (A:=if z=k then some q else (some q).map (λa:Addr=>a.add (k*1))) ((l.drop k).map (Value.int .i64)) rfl rfl ji rfl ZK rfl ct J ZM (iK _) ZJ ZJ ?_;refine uD rfl rfl rfl ct (gX _ _ _ _ _) ZK ?_;refine gJ (qg [4] rfl λvs w2 K L=>aL ?_);obtain ⟨O,rfl,h4⟩:=Sats.one L;refine pJ ?_;have s:OwnS w2 3 1 O (0+k+1+(l.length-k)) (([]++(l.take k).map (Value.int .i64)++ [ZU n])++(l.drop k).map (Value.int .i64))/\ ∀g,O.ownBlock=some g->W.heap.size<=g:=h4;refine aO rfl ⟨K,?_⟩;have e2:(l.take k++n::l.drop k).length=0+k+1+(l.length-k):=ZO;refine dO (e:=3) ?_ ?_ (λg hg=> .inr (s.2 g hg)) ZJ
    .rw [e2];simpa using s.1
    .intro x i;rw [List.mem_append,List.mem_cons] at i;rcases i with i|rfl|i
     .exact S x (List.mem_of_mem_take i)
     .exact R
     .exact S x (List.mem_of_mem_drop i)
 .have b:k=l.length:=ZJ;have t:l[k]?=none:=List.getElem?_eq_none ZJ;have o:=AB hk D (λy p=>by rw [t] at p; cases p);rw [t,if_neg ZM] at o;rw [o];refine fQ (fQ (dK ?_));refine aM bX rfl ⟨ct,trivial⟩ (λ_=>trivial) ?_;refine aM bX rfl ⟨ct,trivial⟩ (λ_=>trivial) ?_;refine aM V.lenSlice rfl ⟨ct,trivial⟩ (λ_=>trivial) ?_;refine aM ve rfl ⟨ct,ct,trivial⟩ (λ_=>trivial) ?_;refine aM bX rfl ⟨ct,trivial⟩ (λ_=>trivial) ?_;refine bJ (.bool false) rfl (by simp [aF,b]) rfl ?_;refine bJ (.bool false) rfl (by simp [aF,b]) rfl ?_;refine bJ (.bool false) rfl (by simp [aF,b]) rfl ?_;refine bJ (.bool false) rfl (by simp [aF,b]) rfl ?_;refine bJ (.bool false) rfl (by simp [aF,b]) rfl ?_;refine bJ (.bool false) rfl (by simp [aF,b]) rfl ?_;refine aB ?_;refine dC [0,1,5,17] rfl ?_;refine aK rfl (λB=> ?_) (λC=> ?_)
  .exfalso; simp [b] at B
  refine qj (iO (iO (kV (aL (fQ (fQ (dK ?_)))))));refine aM bX rfl ⟨ct,trivial⟩ (λ_=>trivial) ?_;refine aM bX rfl ⟨ct,trivial⟩ (λ_=>trivial) ?_;refine aM V.lenSlice rfl ⟨ct,trivial⟩ (λ_=>trivial) ?_;refine aM ve rfl ⟨ct,ct,trivial⟩ (λ_=>trivial) ?_;refine aM bX rfl ⟨ct,trivial⟩ (λ_=>trivial) ?_;refine bJ (.bool false) rfl (by simp [aF,b]) rfl ?_;refine bJ (.bool false) rfl (by simp [aF,b]) rfl ?_;refine bJ (.bool false) rfl (by simp [aF,b]) rfl ?_;refine bJ (.bool false) rfl (by simp [aF,b]) rfl ?_;refine bJ (.bool false) rfl (by simp [aF,b]) rfl ?_;refine bJ (.bool false) rfl (by simp [aF,b]) rfl ?_;refine aB ?_;refine dC [0,1,5,31] rfl ?_;refine aK rfl (λE=> ?_) (λM=> ?_)
  .exfalso; simp [b] at E
  refine aB ?_;refine x8 mixed ZK ?_;refine lQ 3 rfl rfl kC ?_;refine jE ?_;refine bM lL rfl ⟨ct,ct,trivial⟩ (λ_=>by (try dsimp only); omega) ?_;have H: ∀(j:Nat) (u:Value),((l.take k).map (Value.int .i64))[j]?=some u-> ∃c:Addr,A=some c/\W.cell? (c.add j)=some u:=by
   intro j u d;simp only [List.getElem?_map,List.getElem?_take] at d;by_cases N:j<k
   .rw [if_pos N] at d;obtain ⟨y,p,rfl⟩:=Option.map_eq_some_iff.1 d;obtain ⟨q,I,r,_⟩:=hl.int p;exact ⟨q,I,by rw [Nat.mul_one] at r; exact r⟩
   .rw [if_neg N] at d; simp at d
  refine jW (m:=k) (A:=A) ((l.take k).map (Value.int .i64)) rfl rfl ji rfl ZK rfl ct H ZO (iK _) ZJ ZJ ?_;refine jE ?_;refine iN 3 _ rfl rfl rfl kC (cO rfl ct dR) rfl rfl rfl rfl rfl ?_;refine nY [ZU n] rfl rfl ji rfl ZK rfl ct (λu d=>by simp at d; subst d; rfl) ZJ ZJ rfl ?_;refine jE ?_;refine bM mW rfl ⟨ct,ct,trivial⟩ (λ_=>by (try dsimp only); omega) ?_;have J: ∀(j:Nat) (u:Value),((l.drop k).map (Value.int .i64))[j]?=some u-> ∃c:Addr,(if z=k then A else (A).map (λa:Addr=>a.add (k*1)))=some c/\W.cell? (c.add j)=some u:=by
   intro j u d;simp only [List.getElem?_map,List.getElem?_drop] at d;obtain ⟨y,p,rfl⟩:=Option.map_eq_some_iff.1 d;obtain ⟨q,I,r,_⟩:=hl.int p;have Z:=(ZE p).1;refine ⟨q.add (k*1),by rw [if_neg ZJ,I]; rfl,?_⟩;rw [Addr.add_add];rw [Nat.mul_one] at r ⊢;exact r
  refine jW (m:=l.length-k) (A:=if z=k then A else (A).map (λa:Addr=>a.add (k*1))) ((l.drop k).map (Value.int .i64)) rfl rfl ji rfl ZK rfl ct J ZM (iK _) ZJ ZJ ?_;refine uD rfl rfl rfl ct (gX _ _ _ _ _) ZK ?_;refine gJ (qg [4] rfl λvs w2 K L=>aL ?_);obtain ⟨O,rfl,h4⟩:=Sats.one L;refine pJ ?_;have s:OwnS w2 3 1 O (0+k+1+(l.length-k)) (([]++(l.take k).map (Value.int .i64)++ [ZU n])++(l.drop k).map (Value.int .i64))/\ ∀g,O.ownBlock=some g->W.heap.size<=g:=h4;refine aO rfl ⟨K,?_⟩;have e2:(l.take k++n::l.drop k).length=0+k+1+(l.length-k):=ZO;refine dO (e:=3) ?_ ?_ (λg hg=> .inr (s.2 g hg)) ZJ
  .rw [e2];simpa using s.1
  .intro x i;rw [List.mem_append,List.mem_cons] at i;rcases i with i|rfl|i
   .exact S x (List.mem_of_mem_take i)
   .exact R
   .exact S x (List.mem_of_mem_drop i)
theorem E4 (hl:SL evT F w v l) (J:l.length<=1000) (r: ∀e∈l,e.needs.length<=1000):Gives prog 46 #[v] w λu s=>ZT w s/\SL aS (λk=>w.heap.size<=k) s u (aV l):=by
 refine gw func46 ntmps46 ?_;refine bL 3 rfl rfl kC λB K L=>rn ?_;have t:=hl.bnd;refine ze w [0] 4 l.length (λb:Value=> [(3,none,b)]) (λi b W=>SL aS (λk=>w.heap.size<=k) W b (aV (l.take i))/\(aV (l.take i)).length<=i*1000) (.slice (some ⟨B,0,none⟩) 0 0) ⟨⟨_,_,rfl,ZC,by simp [aV,bV,insAll],λi x n=>by simp [aV,bV,insAll] at n⟩,by simp [aV,bV,insAll]⟩ (λi b W z o a=> ?_) λb W o a=> ?_
 .have n:=ZD z;obtain ⟨X,c,⟨_,_,_,C⟩,M⟩:=J8 hl o n;have D:=r _ (List.getElem_mem z);have g:aV (l.take (i+1))=insAll (aV (l.take i)) l[i].needs:=by
   rw [ZG,n];unfold aV bV insAll;rw [List.flatMap_append,List.foldl_append];simp
  refine ze W [0,4] 5 l[i].needs.length (λd:Value=> [(3,none,d)]) (λj d p=>SL aS (λk=>w.heap.size<=k) p d (insAll (aV (l.take i)) (l[i].needs.take j))/\(insAll (aV (l.take i)) (l[i].needs.take j)).length<=i*1000+j) b a (λj d p E m a=> ?_) λd p m a=> ?_
  .have A:=ZD E;refine rn ?_;refine cr rfl (Jg a.1 ZJ (C.rngI A)) λy N O G=> ?_;refine qz y ?_;have H:insAll (aV (l.take i)) (l[i].needs.take (j+1))=insS l[i].needs[j] (insAll (aV (l.take i)) (l[i].needs.take j)):=by
    rw [ZG,A];unfold insAll;rw [List.foldl_append];simp
   have R:=De l[i].needs[j] (insAll (aV (l.take i)) (l[i].needs.take j));have S:=(o.step m).size;rw [H];exact ⟨G.wider λq I=>by rcases I with h|h<;>omega,ZJ⟩
  .rw [List.take_length] at a;refine qz d ?_;rw [g];exact ⟨a.1,ZJ⟩
 .rw [List.take_length] at a;exact aO rfl ⟨bK,a.1⟩
def vL (L:List (List Int)) (w:World) (pre:List (Value×List Int)) (x:Value×List Int) (M:Nat->Prop) (W:World):Prop:=(∃suf,L=pre.map (·.2)++x.2::suf)/\SL aS (λk=>w.heap.size<=k/\ ¬M k) W x.1 x.2
theorem CK (l:List Int) (m:Nat):(gM l m).length<=l.length:=(rX l m).length_le
theorem Qm {A:Option Addr} {c:Nat}:Gives prog 87 #[.slice A n c] w λu b=>ZT w b/\ ∃g,u= .func (.func 169) #[] [.pointer (some ⟨g,0,none⟩)].toArray/\Blk b g 66 [.slice A n c]/\w.heap.size<=g:=by
 refine gv func87 ntmps87 ?_;refine aB ?_;refine bS rfl rfl rfl rfl ?_;rintro d e a;refine aB ?_;refine dN rfl rfl (aA rfl ct aJ) ?_;refine aB ?_;refine aO rfl ⟨a.below,d,rfl,a.blk,by have:=a.at_; omega⟩
theorem Gc {g1:Nat} {l:List Int} (hl:SL aS F w v l) (hF: ∀k,F k->k<w.heap.size) (a5:l.length<=14) (a6:Blk w g1 66 [v]) :
  zS prog 169 [.pointer (some ⟨g1,0,none⟩)] (λx:Value×List Int=> [x.1]) (vL (vG l) w) (λxs=>xs.map (·.2)=vG l) (λk=>k=g1\/F k) w:=by
 intro yl J Jx W M B ao ap hM I hJ aq hy h0;obtain ⟨A,K,rfl,_⟩:=hl.form;have a7:=hl.allI;have L: ∀s:World,(∀k,(k=g1\/F k)->k<w.heap.size->s.heap[k]?=w.heap[k]?)->Blk s g1 66 [.slice A l.length K]/\SL aS F s (.slice A l.length K) l:=λs h =>
  ⟨(h g1 (.inl rfl) a6.lt).trans a6,hl.mono (Kept.of_blocks λk d a=>h k (.inr d) a)⟩
 obtain ⟨m1,m3⟩:=L W B;obtain ⟨p,N⟩: ∃p,p=2 ^ l.length:=⟨_,rfl⟩;have ar:0<p:=by rw [N]; exact Nat.two_pow_pos _
 have ai:p<=16384:=by rw [N]; exact Nat.pow_le_pow_right ZL a5
 refine gv func169 ntmps169 ?_;refine aB ?_;refine aG rfl (m1.cell 0) ?_;refine aM V.lenSlice rfl ⟨ct,trivial⟩ (λ_=>trivial) ?_;refine aM QG rfl ⟨ct,ct,trivial⟩ (λ_=>ZJ) ?_;refine aB ?_;refine aG rfl (m1.cell 0) ?_;refine aB ?_;rw [<-N];refine bT (λx:Nat×List (Value×List Int)×(Nat->Prop)=> [(0,none,.func (.yield yl) #[] #[]),(1,none,.pointer (some ⟨g1,0,none⟩)),(3,none,ZU (p:Int)),(12,none,ZU ((l.length:Int)+1)),(13,none,ZU (x.1:Int))])
  (λx s=>x.1<=l.length+1/\J x.2.1 x.2.2 s/\x.2.1.map (·.2)=((List.range x.1).flatMap λk=>bY l k)/\W.heap.size<=s.heap.size/\(∀k,x.2.2 k->k<s.heap.size)/\ ∀k,(k=g1\/F k)->k<w.heap.size->s.heap[k]?=w.heap[k]?/\ ¬x.2.2 k) (λx=>l.length+1-x.1) (0,[],M) [0,1,3,12,13]
  ⟨ZB,h0,rfl,ZC,I,λk d a=>⟨B k d a,(hM k d).1⟩⟩ rfl ?_
 rintro ⟨k,c,t⟩ W1 ⟨d,C,b,u,r,o⟩;dsimp only at d C b r o;refine aB ?_;refine aI rfl (λa=> ?_) (λau=> ?_)
 .refine aB ?_;refine bT (λx:Nat×List (Value×List Int)×(Nat->Prop)=> [(0,none,.func (.yield yl) #[] #[]),(1,none,.pointer (some ⟨g1,0,none⟩)),(3,none,ZU (p:Int)),(4,none,ZU (k:Int)),(12,none,ZU ((l.length:Int)+1)),(13,none,ZU (k:Int)),(16,none,ZU (p:Int)),(17,none,ZU (x.1:Int))])
   (λx s=>x.1<=p/\J x.2.1 x.2.2 s/\x.2.1.map (·.2)=kJ l k x.1/\W.heap.size<=s.heap.size/\(∀k,x.2.2 k->k<s.heap.size)/\ ∀k,(k=g1\/F k)->k<w.heap.size->s.heap[k]?=w.heap[k]?/\ ¬x.2.2 k) (λx=>p-x.1) (0,c,t) [0,1,3,4,12,13,16,17]
   ⟨ZB,C,by rw [EU]; exact b,u,r,o⟩ rfl ?_
  rintro ⟨i,c,t⟩ W1 ⟨hi,C,b,u,r,o⟩;dsimp only at hi C b r o;obtain ⟨n1,n3⟩:=L W1 (λk d a=>(o k d a).1);refine aB ?_;refine aI rfl (λaj=> ?_) (λak=> ?_)
  .have D:IntKind.u64.wrap ((p:Int)-1-(i:Int))=((p-1-i:Nat):Int):=by rw [IntKind.wrap_u64]; omega
   have j:kJ l k (i+1)=kJ l k i++if pc (p-1-i)==k then [gM l (p-1-i)] else []:=by
    rw [N];exact EV l k ZJ
   skip
   refine oh (aL (fQ (tT (fQ (dK ?_)))));refine aM bX rfl ⟨ct,trivial⟩ (λ_=>trivial) ?_;refine aM eQ rfl ⟨ct,trivial⟩ (λ_=>trivial) ?_;refine dG (bD [0,1,3,4,5,12,13,16,17] [(0,_,_),(1,_,_),(3,_,_),(4,_,_),(5,_,_),(12,_,_),(13,_,_),(16,_,_),(17,_,_)] rfl (aL ?_));refine fQ (dK ?_);refine aM bX rfl ⟨ct,trivial⟩ (λ_=>trivial) ?_;refine aM uY rfl ⟨ct,ct,trivial⟩ (λ_=>by (try dsimp only); omega) ?_;refine aM bX rfl ⟨ct,trivial⟩ (λ_=>trivial) ?_;refine aM uY rfl ⟨ct,ct,trivial⟩ (λ_=>by (try dsimp only); omega) ?_;refine aM (uB rfl) rfl ⟨ct,trivial⟩ (λ_=>trivial) ?_;rw [D];refine aB ?_;refine aN rfl (Su (x:=p-1-i) ZJ) ?_;rintro y w2 ⟨O,rfl⟩;refine aM bX rfl ⟨ct,trivial⟩ (λ_=>trivial) ?_;refine aM Eh rfl ⟨ct,ct,trivial⟩ (λ_=>trivial) ?_;refine aM bX rfl ⟨ct,trivial⟩ (λ_=>trivial) ?_;have av:=O.size;have a8:J c t w2:=hJ _ _ _ _ C (.of_below O);have a9: ∀k,(k=g1\/F k)->k<w.heap.size->w2.heap[k]?=w.heap[k]?/\ ¬t k:=λk d a=>⟨(O.block k ZJ).trans (o k d a).1,(o k d a).2⟩;by_cases n:pc (p-1-i)=k
   .rw [if_pos (by simp [n])] at j;refine aP rfl (by simp only [aF]; exact decide_eq_true ZJ) ?_;refine aB ?_;refine aP rfl (by simp only [aF]; exact decide_eq_true ZJ) ?_;refine aG rfl ((n1.next O).cell 0) ?_;refine aP rfl (by simp only [aF]; exact decide_eq_true ZJ) ?_;refine aB ?_;refine aP rfl (by simp only [aF]; exact decide_eq_true ZJ) ?_;refine aN rfl (JG (m:=p-1-i)) ?_;rintro y w3 ⟨c3,aw,ax,rfl,R,S⟩;have z:=O.step c3;have aa:=n3.below z;refine aP rfl (by simp only [aF]; exact decide_eq_true ZJ) ?_;refine aN rfl (zz (Ap aa a5 ZJ R S) Vm (λq hq=>by rcases hq with rfl|rfl|hq; exact R.lt; exact S.lt; have:=hF q hq; have:=z.size; omega) (λal x ⟨U,e⟩=>by have h1:=congrArg List.length e; have h2:=CK l (p-1-i); simp at h1; omega)) ?_;rintro cv Y ⟨c4,xs,ab,hO,Z⟩;subst ab;have E:=z.step c4;have am:=E.size;have an:=z.size;have ay:=CK l (p-1-i);have ac:SL aS (λq=>w.heap.size<=q/\ ¬t q) Y cv (gM l (p-1-i)):=dO hO (λx hx=>a7 x ((rX _ _).subset hx)) (λg hg=>⟨by have:=Z g hg; omega,λh=>by have:=r g h; have:=Z g hg; omega⟩) ZJ;have ad:J c t Y:=hJ _ _ _ _ C (.of_below E);have G: ∀k,(k=g1\/F k)->k<w.heap.size->Y.heap[k]?=w.heap[k]?/\ ¬t k:=λk d a=>⟨(E.block k ZJ).trans (o k d a).1,(o k d a).2⟩
    have a0:vL (vG l) w c (cv,gM l (p-1-i)) t Y:=by
     refine ⟨?_,ac⟩;obtain ⟨U,a1⟩:=I8 l (k:=k) (i:=i+1) ZJ;exact ⟨U,by rw [a1,j,<-b]; simp⟩
    refine aP rfl (by simp only [aF]; exact decide_eq_true ZJ) ?_;refine kE rfl rfl rfl (aA rfl ct aJ) (hy c (cv,gM l (p-1-i)) t Y ad a0 (λk d=>by have:=r k d; omega) ZJ) ?_;rintro yb W5 hR;refine aP rfl (by simp only [aF]; exact decide_eq_true ZJ) ?_;refine aB ?_;refine dC [0,1,3,4,5,6,12,13,16,17,37] rfl ?_;refine aK rfl (λH=> ?_) (λa2=> ?_)
    .refine aB ?_;refine Cb results169 (.inr ?_);obtain ⟨M',ae⟩:=hR.no (by simpa [n] using H);exact ⟨_,M',ae⟩
    .refine aB ?_;obtain ⟨M',af,a3⟩:=hR.yes (by simpa [n] using a2);have az:=hR.size;refine bH (i+1,c++ [(cv,gM l (p-1-i))],M') [0,1,3,4,12,13,16,17] rfl ⟨by show i+1<=p; omega,af,?_,by show W.heap.size<=W5.heap.size; omega,λk d=>(a3 k d).2,λk d a=>⟨(hR.kept k ZJ (G k d a).2 (hM k d).2).trans (G k d a).1,λh=> ?_⟩⟩ (by show p-(i+1)<p-i; omega)
     .show List.map Prod.snd (c++ [_])=kJ l k (i+1);rw [List.map_append,b,j];rfl
     .rcases (a3 k h).1 with h|h
      .exact (G k d a).2 h
      .omega
   .rw [if_neg (by simp [n]),List.append_nil] at j;refine bJ (.bool false) rfl (by simp only [aF]; exact λh=>n (by have:=of_decide_eq_true h; omega)) rfl ?_;refine bJ (.bool false) rfl (by simp only [aF]; exact λh=>n (by have:=of_decide_eq_true h; omega)) rfl ?_;refine bJ (.bool false) rfl (by simp only [aF]; exact λh=>n (by have:=of_decide_eq_true h; omega)) rfl ?_;refine bJ (.bool false) rfl (by simp only [aF]; exact λh=>n (by have:=of_decide_eq_true h; omega)) rfl ?_;refine bJ (.bool false) rfl (by simp only [aF]; exact λh=>n (by have:=of_decide_eq_true h; omega)) rfl ?_;refine bJ (.bool false) rfl (by simp only [aF]; exact λh=>n (by have:=of_decide_eq_true h; omega)) rfl ?_;refine bJ (.bool false) rfl (by simp only [aF]; exact λh=>n (by have:=of_decide_eq_true h; omega)) rfl ?_;refine aB ?_;refine aK rfl (λH=> ?_) (λa2=> ?_)
    .exfalso;have a4: ¬((pc (p-1-i):Int)=(k:Int)):=ZJ;simp [a4] at H
    .refine aB ?_;refine bH (i+1,c,t) [0,1,3,4,12,13,16,17] rfl ⟨by show i+1<=p; omega,a8,by show c.map (·.2)=kJ l k (i+1); rw [j]; exact b,by show W.heap.size<=w2.heap.size; omega,λk d=>by have:=r k d; show k<w2.heap.size; omega,a9⟩ (by show p-(i+1)<p-i; omega)
  .have ag:i=p:=ZJ;refine aB ?_;refine bH (k+1,c,t) [0,1,3,12,13] rfl ⟨by show k+1<=l.length+1; omega,C,?_,u,r,o⟩ (by show l.length+1-(k+1)<l.length+1-k; omega);show c.map (·.2)=((List.range (k+1)).flatMap λk=>bY l k);rw [b,ag,N,yQ]
 .have ah:k=l.length+1:=ZJ;subst ah;refine aB ?_;refine oU results169 (.inl ⟨c,t,b,C⟩)
end Go.Proofs.YtoleahhfkpkcjaaGreatDoor
namespace Go.PF
open Go.RowKit
theorem LF {P:Program} {N:Nat} {fn:Func} {E:Env} {R:Value->World->Prop} {D s s':Nat} {t t':TypeId} {g':Nat} {v':Value} (d:fn.results= #[.cell s t,.cell s' t']) (h1:one P t=true) (j:one P t'=true) (hs:look E s=some (none,.pointer (some ⟨g,0,none⟩))) (k:look E s'=some (none,.pointer (some ⟨g',0,none⟩)))
  (f:Blk w g t [v]) (b:Blk w g' t' [v']) (l:w.heap[D]?=some (.deferred (some []))) (r:R (.tuple #[v,v']) (w.putObj D (.deferred none))) :
  KW N ({target:= .collected D,args:= #[]}:: []) (bodyPostM (FR none) 0 P fn (λe p=> ∃v,e= .returned v/\R v p) .ret) E w:=by
 refine Sg (λa W m n=> ?_) l r .ret (.inl rfl);have e:=(m.slots s none _ hs).1 trivial;have o:=(m.slots s' none _ k).1 trivial;have h:g≠D:=λe=>by subst e; unfold Blk at f; rw [l] at f; cases f
 have c:g'≠D:=λe=>by subst e; unfold Blk at b; rw [l] at b; cases b
 have q:W.cell? ⟨g,0,none⟩=some v:=by
  rw [n];have:Blk (w.putObj D (.deferred none)) g t [v]:=(World.putObj_heap_other h).trans f;exact this.cell 0
 have i:W.cell? ⟨g',0,none⟩=some v':=by
  rw [n];have:Blk (w.putObj D (.deferred none)) g' t' [v']:=(World.putObj_heap_other c).trans b;exact this.cell 0
 simp only [Array.getD_eq_getD_getElem?] at e o;simp [results,d,e,o,asAddr,nG h1 q,nG j i]
end Go.PF
namespace Go.Proofs.YtoleahhfkpkcjaaGreatDoor
open Go.Proofs.Tryz
open Go.PF Go.RowKit Go.Ord
attribute [local irreducible] TW CW KW DW
theorem RX {l:List Int} (h:SL aS F w v l):SL aS (λk=>F k/\k<w.heap.size) w v l:=by
 obtain ⟨A,a,rfl,d,e,f⟩:=h;refine ⟨A,a,rfl,d,e,λi x g=> ?_⟩;obtain ⟨j,m,n,o,b,c⟩:=f i x g;refine ⟨j,m,n,⟨o,?_⟩,b,c⟩;obtain ⟨rfl,_⟩:=c;have h:=block_lt_of_cell (b 0 _ rfl)
 rwa [add_block,add_block] at h
def Found (b:Nat) (L:List (List Int)) (q:List Int->Bool) (v:Value) (ok:Bool) (W:World):Prop:=(∃S,L.find? q=some S/\ok=true/\SL aS (λk=>b<=k/\k<W.heap.size) W v S)\/(L.find? q=none/\ok=false)
theorem Nj {L pre suf:List (List Int)} (c:L=pre++S::suf) (a: ∀x∈pre,q x=false) (d:q S=true):L.find? q=some S:=by
 rw [c,List.find?_append];have:pre.find? q=none:=by rw [List.find?_eq_none]; intro x b; simp [a x b]
 rw [this];simp [d]
theorem Qh {gf kq:FuncId} {qcap:List Value} {own:Nat->Prop} {L:List (List Int)} (az:zS prog gf cap (λx:Value×List Int=> [x.1]) (vL L w) (λxs=>xs.map (·.2)=L) own w) (b0:enters prog gf=true) (G: ∀k,own k->k<w.heap.size) (b1:enters prog kq=true)
  (hq: ∀W' v S F,ZT w W'->SL aS F W' v S->Gives prog kq (v::qcap).toArray W' λu ay=>ZT W' ay/\u= .bool (q S)) :
  Gives prog 86 #[.func (.func gf) #[] cap.toArray,.func (.func kq) #[] qcap.toArray] w λu w'=>ZT w w'/\ ∃v ok,u= .tuple #[v,.bool ok]/\Found w.heap.size L q v ok w':=by
 refine Tv func86 ntmps86 ?_;refine aB ?_;refine bS rfl rfl rfl rfl ?_;rintro g3 w1 f1;refine gq rfl rfl Wo ?_;rintro b w2 f2;refine gq rfl rfl Yd ?_;rintro d w3 f3;refine aB ?_;have b5:=f1.at_;have b6:=f2.at_;have b7:=f3.at_;have b8:=f1.size;have b9:=f2.size;have ba:=f3.size;have b3:=(f1.below.step f2.below).step f3.below;have B3:=(f1.blk.next f2.below).next f3.below;have B4:=f2.blk.next f3.below;have B5:=f3.blk;have ah:zS prog gf cap (λx:Value×List Int=> [x.1]) (vL L w) (λxs=>xs.map (·.2)=L) own w3:=by
  intro l J Jx W M h1 h2;exact az l J Jx W M (λk s ai=>(h1 k s (Nat.lt_of_lt_of_le ai b3.size)).trans (b3.block k ai)) (Nat.le_trans b3.size h2)
 refine qi rfl b0 ah rfl (λ_=>rfl)
  (λr M W=>ZT w W/\w3.heap.size<=W.heap.size/\Blk W g3 137 [.func (.func kq) #[] qcap.toArray]/\Blk W b 66 [.slice none 0 0]/\Blk W d 4 [.bool false]/\(∀x∈r,q x.2=false)/\M=λk=>k=b\/k=d)
  (λc r M W=>c= .ret/\ZT w W/\w3.heap.size<=W.heap.size/\ ∃v S,Blk W b 66 [v]/\Blk W d 4 [.bool true]/\L.find? q=some S/\SL aS (λk=>w.heap.size<=k/\ ¬(k=b\/k=d)) W v S)
  (λk=>k=b\/k=d) ?_ ?_ ?_ ?_ ?_ ?_ ?_ ?_
 .rintro k (rfl|rfl)
  .exact ⟨ZJ,λh=>by have:=G _ h; omega⟩
  .exact ⟨ZJ,λh=>by have:=G _ h; omega⟩
 .intro k s;have:=G k s;omega
 .rintro r M Wa Wb ⟨a1,a2,a3,t,K,H,a7⟩ i;exact ⟨(i.less ZJ).below a1 ZC,Nat.le_trans a2 i.size,a3.ext i,t.ext i,K.ext i,H,a7⟩
 .rintro c r M Wa Wb ⟨a1,a2,a3,v,S,t,K,H,a7⟩ i;exact ⟨a1,(i.less ZJ).below a2 ZC,Nat.le_trans a3 i.size,v,S,t.ext i,K.ext i,H,a7.ext i⟩
 .exact ⟨b3,ZC,B3,B4,B5,λx i=>(by cases i),rfl⟩
 .rintro D Lp r x M W hD hL ⟨a1,a2,a3,t,K,H,rfl⟩ ⟨⟨bb,U⟩,aj⟩ b2 ab N ak;obtain ⟨xv,j⟩:=x;dsimp only at U aj;refine aB ?_;refine ni ak λW2 A b4 al B=> ?_;have am:ZT w W2:=(A.less ZJ).below a1 ZC;have an:Blk W2 g3 137 [.func (.func kq) #[] qcap.toArray]:=a3.ext A;have C:=aj.ext A;refine aB ?_;refine aG rfl (an.cell 0) ?_;refine aB ?_;refine fE rfl rfl b1 rfl (aA rfl ct aJ) (hq W2 xv j _ am C) ?_;rintro y I ⟨O,rfl⟩;have bc:=O.size;have au:Lp<W2.heap.size:=B.lt;have Y:=B.kept (O.block Lp au);have Z:=am.step O;have o:=(t.ext A).next O;have a0:=(K.ext A).next O;refine aB ?_;refine aK rfl (λao=> ?_) (λav=> ?_)
  .refine aB ?_;obtain ⟨X,a,rfl,_⟩:=C.form;refine fu rfl is66.q rfl rfl (o.cell 0) (o.frozen 0) rfl ?_;have ac:Blk (I.setCell ⟨b,0,none⟩ (.slice X j.length a)) b 66 [.slice X j.length a]:=o.set 0 _;have m:Blk (I.setCell ⟨b,0,none⟩ (.slice X j.length a)) d 4 [.bool false]:=a0.far (by show d≠b; omega) _;refine fu rfl is4.q rfl rfl (m.cell 0) (m.frozen 0) rfl ?_;refine aB ?_;have a8:Lp≠b/\Lp≠d:=⟨λe=>ab (.inl e),λe=>ab (.inr e)⟩;have aw:Blk ((I.setCell ⟨b,0,none⟩ (.slice X j.length a)).setCell ⟨d,0,none⟩ (.bool true)) b 66 [.slice X j.length a]:=ac.far (by show b≠d; omega) _;have ax:Blk ((I.setCell ⟨b,0,none⟩ (.slice X j.length a)).setCell ⟨d,0,none⟩ (.bool true)) d 4 [.bool true]:=m.set 0 _;have E: ∀k,k≠b->k≠d->((I.setCell ⟨b,0,none⟩ (.slice X j.length a)).setCell ⟨d,0,none⟩ (.bool true)).heap[k]?=I.heap[k]?:=λk h1 h2=>(Below.heap_setCell _ _ _ _ (by show k≠d; exact h2)).trans (Below.heap_setCell _ _ _ _ (by show k≠b; exact h1));have ap:((I.setCell ⟨b,0,none⟩ (.slice X j.length a)).setCell ⟨d,0,none⟩ (.bool true)).heap.size=I.heap.size:=ZM
   have ad:ZT w ((I.setCell ⟨b,0,none⟩ (.slice X j.length a)).setCell ⟨d,0,none⟩ (.bool true)):=(Z.setCell (by show w.heap.size<=b; omega) _).setCell (by show w.heap.size<=d; omega) _;have aq:SL aS (λk=>w.heap.size<=k/\ ¬(k=b\/k=d)) ((I.setCell ⟨b,0,none⟩ (.slice X j.length a)).setCell ⟨d,0,none⟩ (.bool true)) (.slice X j.length a) j:=(C.below O).mono (Kept.of_blocks λk s _=>E k (λe=>s.2 (.inl e)) (λe=>s.2 (.inr e)));refine IJ (Y.kept (E Lp a8.1 a8.2)) λW8 g a9 ae n=> ?_;rw [ap] at a9;refine ⟨ZJ,λk h1 h2 h3=>(ae k h3).trans ((E k (λe=>h2 (.inl e)) (λe=>h2 (.inr e))).trans ((O.block k ZJ).trans (al k h3))),λh=>(by cases h),λ_=>⟨λk=>k=b\/k=d,.ret,⟨rfl,(g.less ZJ).below ad ZC,ZJ,.slice X j.length a,j,aw.ext g,ax.ext g,Nj U (λy hy=> ?_) ao,aq.ext g⟩,n⟩⟩;obtain ⟨z,hz,rfl⟩:=List.mem_map.1 hy;exact H z hz
  .refine aB ?_;refine my Y λW8 g a9 ae n=> ?_;refine ⟨ZJ,λk h1 h2 h3=>(ae k h3).trans ((O.block k ZJ).trans (al k h3)),λ_=>⟨λk=>k=b\/k=d,⟨⟨(g.less ZJ).below Z ZC,ZJ,(an.next O).ext g,o.ext g,a0.ext g,λy hy=> ?_,rfl⟩,ab,N,n⟩,λk s=>⟨.inl s,by rcases s with rfl|rfl<;>omega⟩⟩,λh=>by cases h⟩;rcases ZH hy with h|h
   .exact H y h
   .rw [List.mem_singleton] at h;subst h;exact av
 .rintro D xs M W hD af ⟨a1,a2,a3,t,K,H,rfl⟩ N p;have R:xs.map (·.2)=L:=af;have ag:L.find? q=none:=by
   rw [List.find?_eq_none];intro S hS;rw [<-R] at hS;obtain ⟨x,i,rfl⟩:=List.mem_map.1 hS;simp [H x i]
  refine fB (aL ?_);refine aB ?_;refine fu rfl is66.q rfl rfl (t.cell 0) (t.frozen 0) rfl ?_;have ac:Blk (W.setCell ⟨b,0,none⟩ (.slice none 0 0)) b 66 [.slice none 0 0]:=t.set 0 _;have m:Blk (W.setCell ⟨b,0,none⟩ (.slice none 0 0)) d 4 [.bool false]:=K.far (by show d≠b; omega) _;refine fu rfl is4.q rfl rfl (m.cell 0) (m.frozen 0) rfl ?_;refine aB ?_;have aa:D≠b/\D≠d:=⟨λe=>N (.inl e),λe=>N (.inr e)⟩;have E:((W.setCell ⟨b,0,none⟩ (.slice none 0 0)).setCell ⟨d,0,none⟩ (.bool false)).heap[D]?=W.heap[D]?:=(Below.heap_setCell _ _ _ _ (by show D≠d; exact aa.2)).trans (Below.heap_setCell _ _ _ _ (by show D≠b; exact aa.1));have ad:ZT w ((W.setCell ⟨b,0,none⟩ (.slice none 0 0)).setCell ⟨d,0,none⟩ (.bool false)):=(a1.setCell (by show w.heap.size<=b; omega) _).setCell (by show w.heap.size<=d; omega) _;refine LF results86 io66.q io4.q rfl rfl (ac.far (by show b≠d; omega) _) (m.set 0 _) (E.trans p) ⟨jy ad ZJ,_,_,rfl,.inr ⟨ag,rfl⟩⟩
 .rintro D c r M W hD ⟨rfl,a2,a3,v,S,t,K,H,a7⟩ p;have ar:ExtF w3.heap.size W (W.putObj D (.deferred none)):=ExtF.putObj p rfl hD;refine aB ?_;refine LF results86 io66.q io4.q rfl rfl t K p ⟨jy a2 ZJ,_,_,rfl,.inl ⟨S,H,rfl,?_⟩⟩;exact (RX (a7.ext ar)).wider λk s=>⟨s.1.1,s.2⟩
section
open Go.Sort
theorem Kg (h:OwnS w 3 1 v zs.length (zs.map (Value.int .i64))) (hn:zs.length<=9223372036854775807) :
  Gives prog 174 #[v] w λu f=>w.grownBy f v.ownBlock/\OwnS f 3 1 u (Lib.compact zs).length ((Lib.compact zs).map (Value.int .i64))/\u.ownBlock=v.ownBlock:=by
 rcases h.2 with ⟨rfl,s⟩|⟨g,i,j,rfl,t,n,x,y,z,o⟩
 .have A:=List.eq_nil_of_length_eq_zero s;subst A;refine (Tryz.slices_Compact_int_empty none 0 w).mono ?_;rintro e f ⟨rfl,rfl⟩;exact ⟨_,rfl,⟨rfl,rfl,rfl,ZC,λ_ _ _=>rfl⟩,by simpa [Lib.compact,Lib.compactUpTo] using OwnS.nil f _ 1,rfl⟩
 .have B:=holds_of_blockI n (by rw [Nat.mul_one] at o; exact o);have l:=Lib.compact_length_le zs;refine (Tryz.slices_Compact_int g 0 i zs w B hn x).mono ?_;rintro e f ⟨rfl,q,rfl⟩;obtain ⟨c,p⟩: ∃c,c=Lib.compact zs:=⟨_,rfl⟩;obtain ⟨d,a⟩: ∃d:List Int,d=c++List.replicate (zs.length-c.length) 0:=⟨_,rfl⟩;rw [<-p,<-a];rw [<-p] at l;have C:d.length=zs.length:=by rw [a]; simp; omega
  have b:(putRow (Value.int .i64) (Sort.ahead w q) g 0 d.toArray).heap[g]?=some (.cells (putCells (Value.int .i64) 0 d.toArray j) 3 (0,0)):=by
   simp [putRow,mapBlock,Array.getElem?_modify,n,onCells]
  refine ⟨_,rfl,⟨rfl,rfl,rfl,by simp [mapBlock],λk E m=> ?_⟩,⟨ZM,.inr ⟨g,i,_,rfl,t,b,ZJ,y,by simp [putCells,z],?_⟩⟩,rfl⟩
  .have:g≠k:=λe=>m (by rw [e]; rfl);simp [putRow,mapBlock,Array.getElem?_modify,this]
  .have D:=take_putCellsI j d ZJ;rw [Nat.mul_one];have r:=congrArg (List.take c.length) D;rw [List.take_take,Nat.min_eq_left ZJ] at r;rw [r,a,List.map_append,List.take_append_of_le_length ZM,List.take_of_length_le ZM]
theorem DY (hs:zs.Pairwise (· <= ·)):Inc (Lib.compact zs)/\ ∀x,x∈Lib.compact zs↔x∈zs:=by
 have d: ∀j,j<zs.length->zs.toArray[j]! = zs.getD j 0:=λj c=>by simp [c]
 have k: ∀i j,i<j->j<zs.length->zs.getD i 0<=zs.getD j 0:=λi j o c=>by
  have:=List.pairwise_iff_getElem.1 hs i j ZJ c o;simpa [c,show i<zs.length by omega] using this
 have p: ∀m,m<=zs.length->Inc (Lib.compactUpTo zs.toArray m)/\(∀x,x∈Lib.compactUpTo zs.toArray m↔ ∃j,j<m/\zs.getD j 0=x):=by
  intro m
  induction m with
  | zero=>exact λ_=>⟨by simp [Lib.compactUpTo,Inc],λx=>by simp [Lib.compactUpTo]⟩
  | succ m r =>
   intro t;obtain ⟨l,n⟩:=r ZJ;rw [Lib.compactUpTo_succ,d m ZJ];by_cases g:Lib.keeps zs.toArray m=true
   .rw [if_pos g];have h:m=0\/zs.getD m 0≠zs.getD (m-1) 0:=by
     unfold Lib.keeps at g;rw [decide_eq_true_eq,d m ZJ,d (m-1) ZJ] at g;exact g
    refine ⟨List.pairwise_append.2 ⟨l,List.pairwise_singleton _ _,λa s b q=> ?_⟩,λx=> ?_⟩
    .rw [List.mem_singleton] at q;obtain ⟨j,c,rfl⟩:=(n a).1 s;rcases h with rfl|h
     .omega
     .have u:=k (m-1) m ZJ ZJ;by_cases f:j=m-1
      .subst f; omega
      .have v:=k j (m-1) ZJ ZJ;omega
    .rw [List.mem_append,n,List.mem_singleton];constructor
     .rintro (⟨j,c,rfl⟩|rfl)
      .exact ⟨j,ZJ,rfl⟩
      .exact ⟨m,ZJ,rfl⟩
     .rintro ⟨j,c,rfl⟩;by_cases f:j=m
      .subst f; exact .inr rfl
      .exact .inl ⟨j,ZJ,rfl⟩
   .rw [if_neg g,List.append_nil];have h:m≠0/\zs.getD m 0=zs.getD (m-1) 0:=by
     unfold Lib.keeps at g;rw [decide_eq_true_eq,d m ZJ,d (m-1) ZJ] at g;exact ⟨λe=>g (.inl e),Classical.byContradiction λe=>g (.inr e)⟩
    refine ⟨l,λx=> ?_⟩;rw [n];constructor
    .rintro ⟨j,c,rfl⟩;exact ⟨j,ZJ,rfl⟩
    .rintro ⟨j,c,rfl⟩;by_cases f:j=m
     .subst f; exact ⟨j-1,ZJ,h.2.symm⟩
     .exact ⟨j,ZJ,rfl⟩
 obtain ⟨l,n⟩:=p zs.length ZC;refine ⟨l,λx=> ?_⟩;unfold Lib.compact;rw [n,List.mem_iff_getElem?];constructor
 .rintro ⟨j,c,rfl⟩;exact ⟨j,by simp [c]⟩
 .rintro ⟨j,c⟩;obtain ⟨l,n⟩:=ZE c;exact ⟨j,l,by simp [c]⟩
theorem BR (l:List Ev):Lib.compact ((bV l).mergeSort λx y=>decide (x<=y))=aV l:=by
 have f:((bV l).mergeSort λx y=>decide (x<=y)).Pairwise (· <= ·):=by
  have:=List.pairwise_mergeSort (le:=λx y:Int=>decide (x<=y)) (λa b c d e=>by simp at *; omega) (λa b=>ZO) (bV l);exact this.imp λh=>by simpa using h
 obtain ⟨d,e⟩:=DY f;refine nM d (jH l) λx=> ?_;rw [e,List.mem_mergeSort,mem_recsS];unfold bV;rw [List.mem_flatMap]
theorem Qo (hl:SE w v l) (a4:l.length<=1000) (D: ∀e∈l,e.needs.length<=1000) :
  Gives prog 88 #[v] w λx Z=>ZT w Z/\OwnS Z 3 1 x (aV l).length ((aV l).map (Value.int .i64))/\ ∀g,x.ownBlock=some g->w.heap.size<=g:=by
 obtain ⟨A,I,rfl,_⟩:=hl.form;have p: ∀k,(bV (l.take k)).length<=1000*k:=by
  intro k
  induction k with
  | zero=>simp [bV]
  | succ k ih =>
   rw [ZG];unfold bV at *;rw [List.flatMap_append,List.length_append]
   cases E:l[k]? with
   | none =>
    show _+(([]:List Ev).flatMap (·.needs)).length<=_;rw [List.flatMap_nil,List.length_nil]
    omega
   | some e =>
    have:=D e (ZF E);show _+(([e]:List Ev).flatMap (·.needs)).length<=_;rw [List.flatMap_singleton];omega
 refine gv func88 ntmps88 ?_;refine aB ?_;refine bT (λx:Nat×Value=> [(3,none,x.2),(6,none,.slice A l.length I),(7,none,ZU (l.length:Int)),(8,none,ZU (x.1:Int))])
  (λx W=>x.1<=l.length/\ZT w W/\OwnS W 3 1 x.2 (bV (l.take x.1)).length ((bV (l.take x.1)).map (Value.int .i64))/\ ∀g,x.2.ownBlock=some g->w.heap.size<=g) (λx=>l.length-x.1) (0,.slice none 0 0) [3,6,7,8] ⟨ZB,ZA,OwnS.nil _ _ _,λg i=>by simp [Value.ownBlock] at i⟩ rfl ?_
 rintro ⟨k,ov⟩ W ⟨hk,F,G,b⟩;dsimp only at hk G b;have J:=p k;refine aB ?_;refine aI rfl (λa2=> ?_) (λa3=> ?_)
 .obtain ⟨e,E,K⟩:=eP (l:=l) (k:=k) ZJ;have a0:=D e K;have q:=dW hl F;obtain ⟨ad,rfl⟩:=q.addr ZJ;obtain ⟨nv,c,i1,i2,i3,a⟩:=SE.get q E;obtain ⟨C,a1,rfl,_⟩:=a.form;refine aB ?_;refine fP rfl (c) ?_;refine fw rfl tX rfl is68.q rfl rfl ?_;rintro g1 w1 H;refine aB ?_;have L:=a.below H.below;have m: ∀(j:Nat) (u:Value),(e.needs.map (Value.int .i64))[j]?=some u-> ∃d:Addr,C=some d/\w1.cell? (d.add j)=some u:=by
   intro j u hu;simp only [List.getElem?_map] at hu;obtain ⟨z,hz,rfl⟩:=Option.map_eq_some_iff.1 hu;obtain ⟨d,h1,h2,_⟩:=L.int hz;exact ⟨d,h1,by rw [Nat.mul_one] at h2; exact h2⟩
  refine aG rfl (H.blk.fld rfl) ?_;refine aT (e.needs.map (Value.int .i64)) rfl rfl ji rfl (G.below H.below) rfl ZM m (iK _) ZJ ZJ ?_;rintro r M o2 n N;refine aB ?_;have o:=F.step H.below;have O:bV (l.take (k+1))=bV (l.take k)++e.needs:=by
   rw [ZG,E];simp [bV]
  refine bH (k+1,r) [3,6,7,8] rfl ⟨by show k+1<=l.length; omega,o.grown n o.size b,?_,λg i=> ?_⟩ (by show l.length-(k+1)<l.length-k; omega)
  .show OwnS M _ 1 r (bV (l.take (k+1))).length ((bV (l.take (k+1))).map (Value.int .i64));rw [O];simpa using o2
  .rcases N with h|h
   .exact b g (by rw [<-h]; exact i)
   .rw [h] at i; cases i; exact o.size
 have R:k=l.length:=ZJ;subst R;rw [List.take_length] at G J;refine aB ?_;refine aN rfl (Lr G ZJ) ?_;rintro y M ⟨n,S⟩;have s:=F.grown n F.size b;have t:OwnS M 3 1 ov ((bV l).mergeSort λx y=>decide (x<=y)).length (((bV l).mergeSort λx y=>decide (x<=y)).map (Value.int .i64)):=by rw [List.length_mergeSort]; exact S
 refine aB ?_;refine aN rfl (Kg t (by rw [List.length_mergeSort]; omega)) ?_;rintro u3 w3 ⟨U,B,Y⟩;refine aB ?_;rw [BR] at B;refine aO rfl ⟨s.grown U s.size b,B,λg i=>b g (by rw [<-Y]; exact i)⟩
end
theorem qI {α:Type}: ∀ {l t:List α},t.Sublist l-> ∀n,t.length<=n->n<=l.length-> ∃b,t.Sublist b/\b.Sublist l/\b.length=n
 | [],t,h,n,c,a=>⟨[],by simpa using h,List.Sublist.refl _,by simp at a; simp [a]⟩
 | x::l,t,h,n,c,a=>by
  cases h with
  | cons _ h =>
   by_cases g:n<=l.length
   .obtain ⟨b,d,e,f⟩:=qI h n c g;exact ⟨b,d,e.cons x,f⟩
   .simp at a
    exact ⟨x::l,h.cons x,List.Sublist.refl _,ZO⟩
  | cons_cons _ h =>
   simp at c a;obtain ⟨b,d,e,f⟩:=qI h (n-1) ZJ ZJ;exact ⟨x::b,d.cons_cons x,e.cons_cons x,ZO⟩
theorem gone_iff {e:Ev}:gone S e=true↔ ∃r∈e.needs,r∈S:=by
 unfold gone;simp
theorem Jl {T:List Int} (h: ∀e∈l,gone S e=true->gone T e=true):(dB l T).Sublist (dB l S):=by
 unfold dB;have a:l.filter (λe=> !gone T e)=(l.filter (λe=> !gone S e)).filter (λe=> !gone T e):=by
  rw [List.filter_filter];refine List.filter_congr λe b=> ?_
  cases c:gone S e with
  | false=>simp
  | true=>simp [h e b c]
 rw [a];exact List.filter_sublist
structure WOK (d:bG) (l:List Ev) (most:Int):Prop where
 wf:WfP d l
 m0:0<=most
 m3:most<=3
 rl:(aV l).length<=14
theorem WOK.eq (h:WOK d l most):aQ d l most=(bY (aV l) (min most.toNat (aV l).length)).filter (λS=>dec (Poss d (dB l S))):=by
 unfold aQ;rw [if_pos ⟨aD h.wf,h.m0,h.m3,h.rl⟩]
theorem WOK.mem (h:WOK d l most) {b:List Int}:b∈aQ d l most↔b.Sublist (aV l)/\b.length=min most.toNat (aV l).length/\Poss d (dB l b):=by
 rw [h.eq,List.mem_filter,mem_setsS,dec_iff,and_assoc]
theorem WOK.err (h:WOK d l most):bU d l most=if aQ d l most= [] then 280 else 0:=by
 unfold bU;rw [if_pos ⟨aD h.wf,h.m0,h.m3⟩,if_pos h.rl]
theorem WOK.ok (h:WOK d l most) {b:List Int} (hb:b∈aQ d l most):bU d l most=0:=by
 rw [h.err,if_neg (λe=>by rw [e] at hb; cases hb)]
theorem WOK.has (h:WOK d l most) {s:List Int} (hs:(s.length:Int)<=most) (hp:Poss d (dB l s)): ∃b∈aQ d l most,∀x∈s.filter (λy=>decide (y∈aV l)),x∈b:=by
 have f:=(jH l).nodup;have a:((aV l).filter λy=>decide (y∈s)).Sublist (aV l):=List.filter_sublist;have o:=dY (f.sublist a) (λx g=>by
  have:=(List.mem_filter.1 g).2;simpa using this)
 have m:=a.length_le;obtain ⟨b,p,q,t⟩:=qI a (min most.toNat (aV l).length) ZJ ZJ;have c: ∀x∈s,x∈aV l->x∈b:=λx i j=>p.subset (List.mem_filter.2 ⟨j,by simpa using i⟩);refine ⟨b,h.mem.2 ⟨q,t,hp.sub (Jl λe u v=> ?_)⟩,λx g=> ?_⟩
 .obtain ⟨r,n,k⟩:=gone_iff.1 v;exact gone_iff.2 ⟨r,n,c r k (mem_recsS.2 ⟨e,u,n⟩)⟩
 .obtain ⟨i,j⟩:=List.mem_filter.1 g;exact c x i (by simpa using j)
theorem WfP.sub {l':List Ev} (h:WfP d l) (hs:l'.Sublist l):WfP d l' :=
 ⟨h.wd,by have:=hs.length_le; have:=h.few; omega,λe a=>h.each e (hs.subset a),λe a=>h.pos e (hs.subset a)⟩
theorem LU {l':List Ev} (hs:l'.Sublist l): ∀x∈aV l',x∈aV l:=λx b=>by
 obtain ⟨e,c,a⟩:=mem_recsS.1 b;exact mem_recsS.2 ⟨e,hs.subset c,a⟩
theorem WOK.sub {d:bG} {l l':List Ev} {most:Int} (h:WOK d l most) (hs:l'.Sublist l):WOK d l' most :=
 ⟨h.wf.sub hs,h.m0,h.m3,by have:=dY (jH l').nodup (LU hs); have:=h.rl; omega⟩
theorem WOK.len (h:WOK d l most) {b:List Int} (hb:b∈aQ d l most):(b.length:Int)<=most:=by
 have:=(h.mem.1 hb).2.1;have:=h.m0;omega
theorem WOK.more (h:WOK d l most) (m:most<3) {b:List Int} (hb:b∈aQ d l most): ∃c∈aQ d l (most+1),∀x∈b,x∈c:=by
 have f:WOK d l (most+1):=⟨h.wf,by have:=h.m0; omega,ZJ,h.rl⟩;obtain ⟨g,k,i⟩:=h.mem.1 hb;obtain ⟨c,j,a⟩:=f.has (by have:=h.len hb; omega) i;exact ⟨c,j,λx e=>a x (List.mem_filter.2 ⟨e,by simpa using g.subset e⟩)⟩
theorem WOK.inc (h:WOK d l most) {b:List Int} (hb:b∈aQ d l most):Inc b:=(jH l).sublist (h.mem.1 hb).1
theorem Dx {sv:Value} (j:SD w dv d) (hl:SE w lv l) (k:SL aS F w sv S) (a:l.length<=1000000) (b: ∀e∈l,e.needs.length<=1000000) :
  Gives prog 85 #[dv,lv,sv] w λu g=>ZT w g/\u= .bool (dec (jX d (dB l S))):=by
 refine gv func85 ntmps85 ?_;refine aB ?_;refine aN rfl (LK hl k a b) ?_;rintro m n ⟨c,h⟩;refine aN rfl (Dr (fI j c) h) ?_;rintro y o ⟨i,p,rfl⟩;refine aB ?_;refine aO rfl ⟨c.step i,rfl⟩
theorem BD {sv:Value} {g1 g2:Nat} (j:SD w dv d) (hl:SE w lv l) (a:Blk w g1 40 [dv]) (b:Blk w g2 39 [lv]) (k:SL aS F w sv S) (c:l.length<=1000000) (g: ∀e∈l,e.needs.length<=1000000) :
  Gives prog 84 #[sv,.pointer (some ⟨g1,0,none⟩),.pointer (some ⟨g2,0,none⟩)] w λu h=>ZT w h/\u= .bool (dec (jX d (dB l S))):=by
 refine gv func84 ntmps84 ?_;refine aB ?_;refine aG rfl (a.cell 0) ?_;refine aG rfl (b.cell 0) ?_;refine aB ?_;refine aN rfl (Dx j hl k c g) ?_;rintro y m ⟨i,rfl⟩;refine aB ?_;refine aO rfl ⟨i,rfl⟩
noncomputable def jk (d:bG) (l:List Ev):Option (List Int):=(vG (aV l)).find? λS=>dec (Poss d (dB l S))
noncomputable def jC (d:bG) (l:List Ev):Int:=if dec (WfP d l)=true then (if (aV l).length<=14 then (match jk d l with|some _=>0|none=>280) else 2) else 1
noncomputable def iU (d:bG) (l:List Ev):List Int:=if dec (WfP d l)=true/\(aV l).length<=14 then (jk d l).getD [] else []
theorem Kt (l:List Int): ∃a,vG l= []::a:=by
 unfold vG;rw [List.range_succ_eq_map,List.flatMap_cons];have:bY l 0= [[]]:=by cases l<;>rfl
 rw [this];exact ⟨_,rfl⟩
theorem zt (h:Poss d (dB l [])):jk d l=some []:=by
 unfold jk;obtain ⟨r,a⟩:=Kt (aV l);rw [a];simp [aD h]
theorem zX (h:WOK d l 0):aQ d l 0= []↔ ¬Poss d (dB l []):=by
 rw [h.eq];have:bY (aV l) (min (0:Int).toNat (aV l).length)= [[]]:=by
  cases aV l<;>rfl
 rw [this];by_cases a:Poss d (dB l [])<;>simp [a,aD,aH]
theorem wh (hd:SD w dv d) (hl:SE w lv l) (z: ∀e∈l,e.needs.length<=1000) :
  Gives prog 36 #[dv,lv] w λx W=>ZT w W/\ ∃v,x= .tuple #[v,ZU (jC d l)]/\SL aS (λk=>w.heap.size<=k/\k<W.heap.size) W v (iU d l):=by
 obtain ⟨A,ag,rfl,_⟩:=hd.form;obtain ⟨B,ae,rfl,_⟩:=hl.form;refine gv func36 ntmps36 ?_;refine aB ?_;refine bS rfl rfl rfl rfl ?_;rintro g2 w1 f1;refine bS rfl rfl rfl rfl ?_;rintro g3 w2 Y;refine aB ?_;have Z:=f1.below.step Y.below;have B2:=f1.blk.next Y.below;have B3:=Y.blk;have C:=fI hd Z;have D:=dW hl Z;refine aG rfl (B2.cell 0) ?_;refine aG rfl (B3.cell 0) ?_;refine aN rfl (KT C D z) ?_;rintro y w3 ⟨E,wv,rfl,ah⟩;have b3:=Z.step E;refine aB ?_;have r:bU d l 0=if dec (WfP d l)=true then (if (aV l).length<=14 then (if aQ d l 0= [] then 280 else 0) else 2) else 1:=by
  unfold bU;simp
 refine aI rfl (λa=> ?_) (λG=> ?_)
 .refine aB ?_;refine rD rfl ⟨b3,.slice none 0 0,?_,?_⟩
  .by_cases b:dec (WfP d l)=true
   .by_cases m:(aV l).length<=14
    .have c:WOK d l 0:=⟨dec_iff.1 b,ZL,ZL,m⟩;have O:Poss d (dB l []):=by
      apply Classical.byContradiction;intro h;rw [r,if_pos b,if_pos m,if_pos ((zX c).2 h)] at a;exact a rfl
     rw [r,if_pos b,if_pos m,if_neg (λh=>(zX c).1 h O)];unfold jC;rw [if_pos b,if_pos m,zt O];rfl
    .rw [r,if_pos b,if_neg m];unfold jC;rw [if_pos b,if_neg m];rfl
   .rw [r,if_neg b];unfold jC;rw [if_neg b];rfl
  .have h0:iU d l= []:=by
    unfold iU
    split
    .rename_i h;have c:WOK d l 0:=⟨dec_iff.1 h.1,ZL,ZL,h.2⟩;have O:Poss d (dB l []):=by
      apply Classical.byContradiction;intro h';rw [r,if_pos h.1,if_pos h.2,if_pos ((zX c).2 h')] at a;exact a rfl
     rw [zt O];rfl
    .rfl
   rw [h0];exact SL.nil _ _ _
 have n:bU d l 0=280:=by
  apply Classical.byContradiction;exact G
 have b:WfP d l:=by
  apply dec_iff.1;apply Classical.byContradiction;intro h;rw [r,if_neg h] at n;exact absurd n ZL
 have m:(aV l).length<=14:=by
  apply Classical.byContradiction;intro h;rw [r,if_pos (aD b),if_neg h] at n;exact absurd n ZL
 have af:=b.few;have a0:=B2.next E;have H:=B3.next E;have a1:=fI C E;have I:=dW D E;have s: ∀x∈aV l,fF x:=λx hx=>by
  obtain ⟨e,he,a2⟩:=mem_recsS.1 hx;obtain ⟨i,hi,a3⟩:=List.getElem_of_mem he;obtain ⟨ad,cs,_,_,⟨nv,_,_,_,_,hn⟩,_⟩:=hl.at (i:=i) (x:=e) (by rw [<-a3]; exact ZD hi);exact hn.allI x a2
 refine aB ?_;refine dN rfl rfl (aA rfl ct (aA rfl ct aJ)) ?_;refine aB ?_;refine aG rfl (H.cell 0) ?_;refine aN rfl (Qo I ZJ z) ?_;rintro rv w4 ⟨c4,t,ai⟩;obtain ⟨R,J,rfl,_⟩:=t.form;refine aN rfl (Qm) ?_;rintro y w5 ⟨c5,g5,rfl,K,aj⟩;have j:=c4.step c5;have L:SI w5 (.slice R (aV l).length J) (aV l):=(dO (t.below c5) s (λg hg=>(t.below c5).lt hg) ZJ);have a4:=Gc L (λk u=>u) m K;have a5:=fI a1 j;have a6:=dW I j;have a7:=a0.next j;have a8:=H.next j;refine aB ?_;refine aN rfl (Qh (q:=λS=>dec (jX d (dB l S))) a4 VA (λk u=>by rcases u with rfl|u; exact K.lt; exact u) Xk (qcap:= [.pointer (some ⟨g2,0,none⟩),.pointer (some ⟨g3,0,none⟩)]) (λW' v S F U hS=>BD (fI a5 U) (dW a6 U) (a7.next U) (a8.next U) hS ZJ (λe he=>by have:=z e he; omega))) ?_;rintro y w6 ⟨c6,v6,ak,rfl,hF⟩;have b6:=(b3.step j).step c6;have a9:(λS=>dec (jX d (dB l S)))=λS=>dec (Poss d (dB l S)):=by
  funext S;exact dJ (b.rest S)
 rw [a9] at hF;have M:jC d l=match jk d l with|some _=>0|none=>280:=by
  unfold jC;rw [if_pos (aD b),if_pos m]
 have N:iU d l=(jk d l).getD []:=by
  unfold iU;rw [if_pos ⟨aD b,m⟩]
 refine aB ?_;rcases hF with ⟨S,aa,rfl,ab⟩|⟨ac,rfl⟩
 .have o:jk d l=some S:=aa;refine aK rfl (λh1=> ?_) (λh2=> ?_)
  .exact absurd h1 ZM
  .refine aB ?_;refine rD rfl ⟨b6,v6,by rw [M,o]; rfl,by rw [N,o]; exact ab.wider λk u=>⟨by have:=(b3.step j).size; omega,u.2⟩⟩
 .have p:jk d l=none:=ac;refine aK rfl (λh1=> ?_) (λh2=> ?_)
  .refine aB ?_;refine rD rfl ⟨b6,.slice none 0 0,by rw [M,p],by rw [N,p]; exact SL.nil _ _ _⟩
  .exact absurd h2 ZM
theorem EK (h:SD w dv d) (hl:SE w lv l) (a: ∀e∈l,e.needs.length<=1000) :
  Gives prog 36 #[dv,lv] w λx b=>ZT w b/\ ∃v,x= .tuple #[v,ZU (jC d l)]/\SI b v (iU d l) :=
 (wh h hl a).mono λ_ _ ⟨c,v,f,g⟩=>⟨c,v,f,g.now fV⟩
section
variable {φ:Nat->Nat} {d:bG}
theorem Qi {l:List Sc} {r':List Rc} (h:Emb φ r r') (b: ∀d,Fol l r' lab d-> ∀n∈d.needs,∃i:Nat,n=((φ i:Nat):Int)):bO l r' lab=(bO l r lab).map (iR φ):=by
 unfold bO;rw [List.map_take]
 congr 1
 refine (sN (Pf h.mono (kR _) λe a=>(mem_folL.1 (mem_canon.1 a)).pos) λx=> ?_).symm;rw [List.mem_map,mem_folL];constructor
 .rintro ⟨e,a,rfl⟩;exact ((Ih h).2 ⟨e,mem_folL.1 (mem_canon.1 a),rfl⟩).1
 .intro c;obtain ⟨e,a,rfl⟩:=(Ih h).1 ⟨c,b x c⟩;exact ⟨e,mem_canon.2 (mem_folL.2 a),rfl⟩
theorem vO {l:List Sc}: ∀e∈bO l r lab,∀n∈e.needs,0<=n:=λe a=>(mem_folL.1 (mem_canon.1 (List.mem_of_mem_take a))).pos
theorem Ii {l:List Sc}:(bO l r lab).length<=14:=by
 unfold bO;rw [List.length_take];omega
theorem jL {l:List Sc}: ∀e∈bO l r lab,e.needs.length<=4:=λe a=>(mem_folL.1 (mem_canon.1 (List.mem_of_mem_take a))).len.2
def jo (e:Ev):Int×Int×Int:=(e.office,e.low,e.high)
theorem Ik: ∀ {a:List ET} {b:List Ev},a.map (λx=>jo x.1)=b.map jo-> ∃c:List ET,c.map (·.1)=b/\c.map (λx=>(jo x.1,x.2))=a.map (λx=>(jo x.1,x.2))
 | [],[],_=>⟨[],rfl,rfl⟩
 | [],_::_,h=>by simp at h
 | _::_,[],h=>by simp at h
 | x::a,y::b,h=>by
  simp only [List.map_cons,List.cons.injEq] at h;obtain ⟨c,d,e⟩:=Ik h.2;exact ⟨(y,x.2)::c,by simp [d],by simp [e,h.1]⟩
theorem Ed {x y x' y':ET} (a:jo x.1=jo x'.1/\x.2=x'.2) (b:jo y.1=jo y'.1/\y.2=y'.2):yI d x y↔yI d x' y':=by
 have c:x.1.office=x'.1.office:=congrArg (·.1) a.1;have e:y.1.office=y'.1.office:=congrArg (·.1) b.1;unfold yI;rw [c,e,a.2,b.2]
theorem FY {a c:List ET} (h:c.map (λx=>(jo x.1,x.2))=a.map (λx=>(jo x.1,x.2))) (o:HoldsN d a):HoldsN d c:=by
 refine ⟨λx p=> ?_,?_⟩
 .have:(jo x.1,x.2)∈a.map (λx=>(jo x.1,x.2)):=by rw [<-h]; exact List.mem_map.2 ⟨x,p,rfl⟩
  obtain ⟨y,q,e⟩:=List.mem_map.1 this;simp only [jo,Prod.mk.injEq] at e;have:=o.each y q;rw [<-e.1.2.1,<-e.1.2.2,<-e.2];exact this
 .rw [List.pairwise_iff_getElem];intro i j g m f;have r:=congrArg List.length h;simp only [List.length_map] at r;have b: ∀(k:Nat) (n:k<c.length),jo c[k].1=jo (a[k]'(by omega)).1/\c[k].2=(a[k]'(by omega)).2:=λk n=>by
   have:=congrArg (λl=>l[k]?) h;simp only [List.getElem?_map,ZD n,ZD (show k<a.length by omega),Option.map_some,Option.some.injEq,Prod.mk.injEq] at this;exact this
  have:=List.pairwise_iff_getElem.1 o.two i j ZJ ZJ f;rw [Ed (b i g) (b j m),Ed (b j m) (b i g)];exact this
theorem yZ {a b:List Ev} (h:a.map jo=b.map jo) (hp:Poss d a):Poss d b:=by
 obtain ⟨l,rfl,e⟩:=hp;obtain ⟨c,f,g⟩:=Ik (a:=l) (by rw [<-h,List.map_map]; rfl);exact ⟨c,f,FY g e⟩
theorem DO (l:List Ev):(l.map (iR φ)).map jo=l.map jo:=by rw [List.map_map]; rfl
theorem L3:Poss d (l.map (iR φ))↔Poss d l:=⟨yZ (DO l),yZ (DO l).symm⟩
theorem Cc (l:List Int):(dS φ l).length=l.length:=List.length_map ..
theorem Ch (h: ∀i j,i<j->φ i<φ j) (g: ∀e∈l,∀n∈e.needs,0<=n):aV (l.map (iR φ))=dS φ (aV l):=by
 refine nM (jH _) (Ce h (jH _) λn a=> ?_) λx=> ?_
 .obtain ⟨e,b,c⟩:=mem_recsS.1 a;exact g e b n c
 .rw [mem_recsS,mem_renI];constructor
  .rintro ⟨k,d,c⟩;obtain ⟨e,b,rfl⟩:=List.mem_map.1 d;obtain ⟨n,a,f⟩:=mem_renI.1 c;exact ⟨n,mem_recsS.2 ⟨e,b,a⟩,f⟩
  .rintro ⟨n,a,f⟩;obtain ⟨e,b,c⟩:=mem_recsS.1 a;exact ⟨iR φ e,List.mem_map_of_mem b,mem_renI.2 ⟨n,c,f⟩⟩
theorem LJ (h: ∀i j,i<j->φ i<φ j) (c: ∀e∈l,∀n∈e.needs,0<=n) (d: ∀n∈S,0<=n):dB (l.map (iR φ)) (dS φ S)=(dB l S).map (iR φ):=by
 unfold dB;rw [List.filter_map]
 congr 1
 refine List.filter_congr λe a=> ?_;show (!gone (dS φ S) (iR φ e))= !gone S e
 congr 1
 unfold gone;show (dS φ e.needs).any _=_;unfold dS;rw [List.any_map];rw [Bool.eq_iff_iff,List.any_eq_true,List.any_eq_true];refine exists_congr λn=>and_congr_right λb=> ?_;show (dS φ S).contains ((φ n.toNat:Nat):Int)=true↔S.contains n=true;rw [List.contains_iff_mem,List.contains_iff_mem,LQ h d (c e a n b)]
theorem wC (φ:Nat->Nat): ∀(L:List Int) (k:Nat),bY (dS φ L) k=(bY L k).map (dS φ)
 | L,0=>by
  have a: ∀L:List Int,bY L 0= [[]]:=λL=>by cases L<;>rfl
  rw [a,a]; rfl
 | [],_+1=>rfl
 | x::L,k+1=>by
  show (bY (dS φ L) k).map (((φ x.toNat:Nat):Int):: ·)++bY (dS φ L) (k+1)=((bY L k).map (x:: ·)++bY L (k+1)).map (dS φ);rw [wC φ L k,wC φ L (k+1),List.map_append,List.map_map,List.map_map];rfl
theorem K3 (f: ∀e∈l,∀n∈e.needs,0<=n):WfP d (l.map (iR φ))↔WfP d l:=by
 constructor
 .intro h;exact ⟨h.wd,by have:=h.few; simpa using this,λe a=>by
   have:=h.each (iR φ e) (List.mem_map_of_mem a);exact ⟨this.o1,this.o2⟩,λe a n b=>f e a n b⟩
 .intro h;refine ⟨h.wd,by have:=h.few; simpa using this,λe a=> ?_,λe a n b=> ?_⟩
  .obtain ⟨e,c,rfl⟩:=List.mem_map.1 a;have:=h.each e c;exact ⟨this.o1,this.o2⟩
  .obtain ⟨e,c,rfl⟩:=List.mem_map.1 a;obtain ⟨m,_,rfl⟩:=mem_renI.1 b;omega
theorem dJ {p q:Prop} (h:p↔q):dec p=dec q:=by rw [propext h]
theorem LV (d: ∀e∈l,∀n∈e.needs,0<=n): ∀n∈aV l,0<=n:=λn a=>by
 obtain ⟨e,b,c⟩:=mem_recsS.1 a;exact d e b n c
theorem EI (h: ∀i j,i<j->φ i<φ j) (a: ∀e∈l,∀n∈e.needs,0<=n):aQ d (l.map (iR φ)) most=(aQ d l most).map (dS φ)/\bU d (l.map (iR φ)) most=bU d l most:=by
 have b:aQ d (l.map (iR φ)) most=(aQ d l most).map (dS φ):=by
  unfold aQ;rw [dJ (K3 a),Ch h a,Cc]
  split
  .rw [wC,List.filter_map]
   congr 1
   refine List.filter_congr λS b=> ?_;have f:=(mem_setsS.1 b).1;show dec (Poss d (dB (l.map (iR φ)) (dS φ S)))=dec (Poss d (dB l S));rw [LJ h a λn c=>LV a n (f.subset c),dJ L3]
  .rfl
 refine ⟨b,?_⟩;have c:(aQ d (l.map (iR φ)) most= [])=(aQ d l most= []):=by rw [b,List.map_eq_nil_iff]
 unfold bU;rw [dJ (K3 a),Ch h a,Cc];simp only [c]
theorem CL {L:List Int} (h:S∈vG L):S.Sublist L:=by
 obtain ⟨k,_,a⟩:=List.mem_flatMap.1 h;exact (mem_setsS.1 a).1
end
end Go.Proofs.YtoleahhfkpkcjaaGreatDoor
namespace Go.Proofs.YtoleahhfkpkcjaaGreatDoor
open Go.Proofs.Tryz
section
open Go.PF Go.RowKit Go.Ord
attribute [local irreducible] TW CW KW DW
def uj (dn:Nat) (e:Ev):Bool:=decide (e.office<0)||decide (e.office ≥ (dn:Int))
theorem O1 {D:Option Addr} {dn dc:Nat} (j:Blk w g 40 [.slice D dn dc]):Et w 176 [.pointer (some ⟨g,0,none⟩)] (uj dn):=by
 intro e k F l b i;have c:=j.next b;refine gv func176 ntmps176 ?_;refine aB ?_;refine bS rfl rfl rfl rfl ?_;rintro m n a;refine aB ?_;have d:=c.next a.below;refine aG rfl (a.blk.fld rfl) ?_;refine aB ?_;refine aG rfl (a.blk.fld rfl) ?_;refine aG rfl (d.cell 0) ?_;refine aB ?_;refine aO rfl ⟨a.below,rfl⟩
theorem Pk {p:Ev->Bool} (hl:SE w v l) (e:enters prog k=true) (hp:Et w k caps p) :
  Gives prog 175 #[v,.func (.func k) #[] caps.toArray] w λx c=>ZT w c/\x= .bool (l.any p):=by
 refine gv func175 ntmps175 ?_;refine aB ?_;refine aN rfl (Dh hl e hp) ?_;rintro g h ⟨a,b⟩;rcases b with ⟨rfl,b⟩|⟨i,rfl,b⟩
 .skip
  refine aB ?_;refine aO rfl ⟨a,by rw [b]; rfl⟩
 .skip
  refine aB ?_;refine aO rfl ⟨a,by rw [b]; simp⟩
structure FitW (d:bG) (l:List Ev) (nw:Nat):Prop where
 few:l.length<=14
 worlds:nw<=400
 wd:WfD d
 each: ∀e∈l,EOK d e
theorem off_all:l.any (uj d.length)=false↔ ∀e∈l,EOK d e:=by
 rw [List.any_eq_false];refine ⟨λh e a=> ?_,λh e a b=> ?_⟩
 .have:=h e a;unfold uj at this;simp at this;exact ⟨ZJ,ZJ⟩
 .have c:=(h e a).o1;have f:=(h e a).o2;unfold uj at b;simp at b;omega
theorem JX {W:Option Addr} {nw wc:Nat} (t:SD w dv d) (hl:SE w lv l):Gives prog 89 #[dv,lv,.slice W nw wc] w λx u=>ZT w u/\x= .bool (dec (FitW d l nw)):=by
 obtain ⟨A,v,rfl,_⟩:=t.form;obtain ⟨B,q,rfl,_⟩:=hl.form;refine gv func89 ntmps89 ?_;refine aB ?_;refine bS rfl rfl rfl rfl ?_;rintro g r b;refine aB ?_;refine aK rfl (λc=> ?_) (λa=> ?_)
 .refine aB ?_;refine aO rfl ⟨b.below,by rw [aH λh=>by have:=h.few; have:=h.worlds; simp at c; omega]⟩
 have s:l.length<=14/\nw<=400:=by simp at a; omega
 refine aB ?_;refine aG rfl (b.blk.cell 0) ?_;refine aN rfl (Dr (fI t b.below) (SL.nil evT (λk=>k<r.heap.size) r)) ?_;rintro z C ⟨i,D,rfl⟩;have j:=b.below.step i;have o:=b.blk.next i;have p:dec (jX d [])=dec (WfD d):=dJ ⟨λh=>h.1.wd,λh=>⟨⟨h,ZM,ZM⟩,Cq d⟩⟩;rw [p];refine aB ?_;refine dN rfl rfl (aA rfl ct aJ) ?_;refine il rfl rfl Vy rfl ct (aA rfl id (aA rfl id aJ)) (λ_=>Pk (dW hl j) Vx (O1 o)) ?_;rintro E y;refine aB ?_;refine aO rfl ⟨j.step y,?_⟩;by_cases m:WfD d
 .rw [aD m];by_cases n: ∀e∈l,EOK d e
  .rw [off_all.2 n,aD ⟨s.1,s.2,m,n⟩];rfl
  .have:l.any (uj d.length)=true:=by
    cases h:l.any (uj d.length) with
    | true=>rfl
    | false=>exact absurd (off_all.1 h) n
   rw [this,aH λh=>n h.each];rfl
 .rw [aH m,aH λh=>m h.wd];rfl
end
section
open Go.PF Go.RowKit Go.Ord
attribute [local irreducible] TW CW KW DW
def XE (w:World) (k:FuncId) (caps:List Value) (L:List (List Int)) (p:List Int->Bool):Prop:= ∀r∈L,∀(rv:Value) (w':World),ZT w w'->SL aS (λk=>k<w.heap.size) w' rv r ->
 Gives prog k (rv::caps).toArray w' λu w''=>ZT w' w''/\u= .bool (p r)
def GV (w:World) (k:FuncId) (caps:List Value) (L:List (List Ev)) (p:List Ev->Bool):Prop:= ∀r∈L,∀(rv:Value) (w':World),ZT w w'->SL evT (λk=>k<w.heap.size) w' rv r ->
 Gives prog k (rv::caps).toArray w' λu w''=>ZT w' w''/\u= .bool (p r)
theorem JS (hl:SL (sliceT evT) (λk=>k<w.heap.size) w v L) (B:enters prog k=true) (hp:GV w k caps L p) :
  Gives prog 263 #[v,.func (.func k) #[] caps.toArray] w λx s=>ZT w s/\((x= ZU (-1)/\L.any p=false)\/ ∃i:Nat,x= ZU (i:Int)/\L.any p=true):=by
 obtain ⟨A,t,rfl,_⟩:=hl.form;have q:=hl.len.2.2;refine gv func263 ntmps263 ?_;refine aB ?_;refine dA [0,1,7] (λi:Nat=> [(8,none,ZU (i:Int))])
  (λi W=>i<=L.length/\ZT w W/\(L.take i).any p=false) (λi=>L.length-i) 0 ⟨ZB,ZA,rfl⟩ ?_
 rintro i W ⟨C,c,a⟩;refine aB ?_;refine aI rfl (λu=> ?_) (λy=> ?_)
 .have o:i<L.length:=ZJ;have d:=hl.below c;obtain ⟨D,rfl⟩:=d.addr ZJ;obtain ⟨e,r,g⟩:=eP o;obtain ⟨z,b,h⟩:=d.row r;refine aB ?_;refine aG rfl b ?_;refine fE rfl rfl B rfl (aA rfl ct aJ) (hp e g z _ c h) ?_;rintro E F ⟨j,rfl⟩;refine aB ?_;refine aK rfl (λm=> ?_) (λn=> ?_)
  .refine aB ?_;refine aO rfl ⟨c.step j,.inr ⟨i,rfl,?_⟩⟩;rw [List.any_eq_true];exact ⟨e,g,m⟩
  .refine aB ?_;refine cK (i+1) ⟨ZJ,c.step j,?_⟩;rw [ZG,List.any_append,a,r];simp [n]
 .refine aB ?_;refine aO rfl ⟨c,.inl ⟨rfl,?_⟩⟩;rw [show i=L.length by omega,List.take_length] at a;exact a
theorem Ls (hl:SL (sliceT evT) (λk=>k<w.heap.size) w v L) (e:enters prog k=true) (hp:GV w k caps L p) :
  Gives prog 180 #[v,.func (.func k) #[] caps.toArray] w λx c=>ZT w c/\x= .bool (L.any p):=by
 refine gv func180 ntmps180 ?_;refine aB ?_;refine aN rfl (JS hl e hp) ?_;rintro g h ⟨a,b⟩;rcases b with ⟨rfl,b⟩|⟨i,rfl,b⟩
 .skip
  refine aB ?_;refine aO rfl ⟨a,by rw [b]; rfl⟩
 .skip
  refine aB ?_;refine aO rfl ⟨a,by rw [b]; simp⟩
end
section
open Go.PF Go.RowKit Go.Ord
end
end Go.Proofs.YtoleahhfkpkcjaaGreatDoor
namespace Go.Ord
section
variable {d:bG}
def EN (o f t:Int):Ev:=⟨o,f,t,[]⟩
def VU (d:bG) (x:ET) (o τ:Int):Prop:=at2 d x.1.office.toNat o.toNat≠ -1/\at2 d x.1.office.toNat o.toNat<=τ-x.2
def Wk (d:bG) (o τ:Int) (x:ET):Prop:=at2 d o.toNat x.1.office.toNat≠ -1/\at2 d o.toNat x.1.office.toNat<=x.2-τ
def PV (d:bG) (rest:List Ev) (o τ:Int):Prop:=0<=τ/\τ<=1000000/\ ∃l:List ET,l.map (·.1)=rest/\HoldsN d l/\ ∀x∈l,VU d x o τ\/Wk d o τ x
theorem LZ {rest:List Ev} {o f:Int}:Poss d (rest++ [EN o f t])↔ ∃τ,f<=τ/\τ<=t/\PV d rest o τ:=by
 constructor
 .rintro ⟨l,i,h⟩;obtain ⟨m,j,rfl,k,b⟩:=List.map_eq_append_iff.1 i;obtain ⟨y,rfl,c⟩: ∃y,j= [y]/\y.1=EN o f t:=by
   cases j with
   | nil=>simp at b
   | cons y j =>
    simp at b;exact ⟨y,by rw [b.2],b.1⟩
  have e:=h.each y ZM;rw [c] at e;obtain ⟨n,_,p⟩:=List.pairwise_append.1 h.two;refine ⟨y.2,e.2.2.1,e.2.2.2,e.1,e.2.1,m,k,⟨λx g=>h.each x (by simp [g]),n⟩,λx g=> ?_⟩;have:=p x g y ZM;unfold yI at this;rw [c] at this;exact this
 .rintro ⟨τ,k,b,q,r,l,rfl,i,g⟩;refine ⟨l++ [(EN o f t,τ)],ZM,⟨λx a=> ?_,List.pairwise_append.2 ⟨i.two,List.pairwise_singleton _ _,λx a y c=> ?_⟩⟩⟩
  .rcases ZH a with a|a
   .exact i.each x a
   .rw [List.mem_singleton] at a;subst a;exact ⟨q,r,k,b⟩
  .rw [List.mem_singleton] at c;subst c;exact g x a
theorem HoldsN.sub {l l':List ET} (h:HoldsN d l) (hs:l'.Sublist l):HoldsN d l':=⟨λx a=>h.each x (hs.subset a),h.two.sublist hs⟩
theorem vM {α β:Type} {f:α->β}: ∀ {l:List α} {m:List β},m.Sublist (l.map f)-> ∃a:List α,a.Sublist l/\a.map f=m
 | [],m,h=>⟨[],List.Sublist.refl _,by simp at h; rw [h]; rfl⟩
 | x::l,m,h=>by
  cases h with
  | cons _ h =>
   obtain ⟨a,b,c⟩:=vM h
   exact ⟨a,b.cons _,c⟩
  | cons_cons _ h =>
   obtain ⟨a,b,c⟩:=vM h;exact ⟨x::a,b.cons_cons _,by simp [c]⟩
theorem PV.sub {rest rest':List Ev} {o τ:Int} (h:PV d rest o τ) (hs:rest'.Sublist rest):PV d rest' o τ:=by
 obtain ⟨b,c,l,rfl,e,f⟩:=h;obtain ⟨g,a,i⟩:=vM hs;exact ⟨b,c,g,i,e.sub a,λx j=>f x (a.subset j)⟩
theorem wR {α β:Type} {f:α->β}: ∀ {m:List β} {l:List α},(l.map f).Perm m-> ∃d:List α,d.Perm l/\d.map f=m
 | [],l,h=>by
  have:l= []:=by have:=h.length_eq; simp at this; exact this
  subst this
  exact ⟨[],List.Perm.refl _,rfl⟩
 | e::m,l,h=>by
  have g:e∈l.map f:=h.mem_iff.2 ZM;obtain ⟨x,i,rfl⟩:=List.mem_map.1 g;obtain ⟨c,b,rfl⟩:=List.append_of_mem i;have j:((c++b).map f).Perm m:=by
   have q:=(List.perm_middle (a:=x) (l₁:=c) (l₂:=b)).map f;exact List.Perm.cons_inv (q.symm.trans h)
  obtain ⟨d,k,n⟩:=wR j;exact ⟨x::d,(k.cons x).trans List.perm_middle.symm,by simp [n]⟩
theorem HoldsN.perm {l l':List ET} (h:HoldsN d l) (hp:l'.Perm l):HoldsN d l':=⟨λx a=>h.each x (hp.mem_iff.1 a),gY hp.symm h.two⟩
theorem PV.perm {rest rest':List Ev} {o τ:Int} (h:PV d rest o τ) (hp:rest.Perm rest'):PV d rest' o τ:=by
 obtain ⟨b,c,l,rfl,e,f⟩:=h;obtain ⟨g,a,i⟩:=wR hp;exact ⟨b,c,g,i,e.perm a,λx j=>f x (a.mem_iff.1 j)⟩
theorem PossJ.sub {rest rest':List Ev} {a b:Ev} {g:Int} (h:PossJ d rest a b g) (hs:rest'.Sublist rest):PossJ d rest' a b g:=by
 obtain ⟨e,l,t,rfl,f,i,j,k⟩:=h;obtain ⟨m,c,n⟩:=vM hs;exact ⟨e,m,t,n,f.sub c,i,j,λx o=>k x (c.subset o)⟩
theorem PossJ.perm {rest rest':List Ev} {a b:Ev} {g:Int} (h:PossJ d rest a b g) (hp:rest.Perm rest'):PossJ d rest' a b g:=by
 obtain ⟨e,l,t,rfl,f,i,j,k⟩:=h;obtain ⟨m,c,n⟩:=wR hp;exact ⟨e,m,t,n,f.perm c,i,j,λx o=>k x (c.mem_iff.1 o)⟩
end
end Go.Ord
namespace Go.Proofs.YtoleahhfkpkcjaaGreatDoor
open Go.Proofs.Tryz
open Go.PF Go.RowKit Go.Ord
abbrev Br:=Int×Int
def eX (l:List Ev) (ws:List (List Int)):List (List Ev):=ws.map (dB l)
def As (l:Li) (t:Int):Ev:=⟨l.frm,t-l.trav+1,t-1,[]⟩
def Bd (l:Li) (t:Int):Ev:=⟨l.to,t+1,t+l.trav-1,[]⟩
inductive Knd
 | at (o f t:Int)
 | on (l:Li) (t:Int)
def Knd.more:Knd->List Ev
 | .at o f t=> [EN o f t]
 | .on l t=> [As l t,Bd l t]
noncomputable def Knd.b (d:bG) (k:Knd) (r:List Ev):Bool:=match k with
 | .at o f t=>dec (jX d (r++ [EN o f t]))
 | .on l t=>dec (IK d (r++ [As l t,Bd l t]) r (As l t) (Bd l t) l.trav)
noncomputable def yC (d:bG) (rs:List (List Ev)) (k:Knd):Bool:=rs.any (k.b d)
def Cz (n:Nat) (t:Int):List (Br×Knd):=(List.range n).map λi:Nat=>(((i:Int),-1),.at (i:Int) t t)
def CY (ls:List Li) (t:Int):List (Br×Knd):=ls.mapIdx λi l=>((-1,(i:Int)),.on l t)
def qL (N:Net) (t:Int):List (Br×Knd):=Cz N.offs.length t++CY N.lines t
noncomputable def Ab (N:Net) (d:bG) (rs:List (List Ev)) (t:Int):List Br:=((qL N t).filter λp=>yC d rs p.2).map (·.1)
structure PossOK (N:Net) (d:bG) (l:List Ev) (nw:Nat) (t:Int):Prop where
 sound:SoundOK keys11 N
 fit:FitW d l nw
 same:d.length=N.offs.length
 t0:0<=t
 t1:t<=1000000
noncomputable def ll (N:Net) (d:bG) (l:List Ev) (ws:List (List Int)) (t:Int):List Br:=if dec (PossOK N d l ws.length t)=true then Ab N d (eX l ws) t else []
noncomputable def WH (d:bG) (l:List Ev) (ws:List (List Int)) (o f t:Int):Bool:=dec (FitW d l ws.length)&&decide (0<=o/\o<(d.length:Int))&&yC d (eX l ws) (.at o f t)
def Tn (o by_:Int) (e:Ev):Bool:=decide (e.office=o/\e.high<=by_)
def XL (l:List Ev) (ws:List (List Int)) (o by_:Int):Bool:=decide (0<ws.length)&&ws.all λS=>(dB l S).any (Tn o by_)
theorem pP (n:Nat) (t:Int):(Cz n t).length=n:=by simp [Cz]
theorem JJ (a:List Li) (t:Int):(CY a t).length=a.length:=by simp [CY]
theorem Ml (h:i<n):(Cz n t)[i]?=some (((i:Int),-1),.at i t t):=by simp [Cz,h]
theorem MG {ls:List Li} {l:Li} (h:ls[i]?=some l):(CY ls t)[i]?=some ((-1,(i:Int)),.on l t):=by simp [CY,h]
theorem Ct (N:Net) (t:Int):(qL N t).length=N.offs.length+N.lines.length:=by simp [qL,pP,JJ]
theorem L5 {N:Net} (h:i<N.offs.length):(qL N t)[i]?=some (((i:Int),-1),.at i t t):=by
 unfold qL;rw [List.getElem?_append_left (by rw [pP]; exact h),Ml h]
theorem L6 {N:Net} {l:Li} (h:N.lines[i]?=some l):(qL N t)[N.offs.length+i]?=some ((-1,(i:Int)),.on l t):=by
 unfold qL;rw [List.getElem?_append_right (by rw [pP]; omega),pP,show N.offs.length+i-N.offs.length=i by omega,MG h]
def sptT:Ty Br where
 n:=2
 rep:=λ_ _ cs s=>cs= [ZU s.1,ZU s.2]/\fF s.1/\fF s.2
 len:=λ_ _ _ _ h=>by rw [h.1]; rfl
 mono:=λ_ _ _ _ _ _ h=>h
 wider:=λ_ _ _ _ _ _ h=>h
def Ac (s:Br):List Value:= [ZU s.1,ZU s.2]
abbrev SPs (w:World) (v:Value) (l:List Br):Prop:=SL sptT (λk=>k<w.heap.size) w v l
theorem SPs.get {ad:Addr} {cap:Nat} {l:List Br} (h:SL sptT F w (.slice (some ad) n cap) l) {s:Br} (f:l[i]?=some s) :
  (∀j u,(Ac s)[j]?=some u->w.cell? ((ad.add ((i:Int).toNat*2)).add j)=some u)/\fF s.1/\fF s.2:=by
 obtain ⟨a,g,b,_,⟨rfl,c,d⟩,e⟩:=h.at f;cases b;exact ⟨e,c,d⟩
section
variable {φ:Nat->Nat} {d:bG}
end
attribute [local irreducible] TW CW KW DW
def Idx (w:World) (k:FuncId) (cap:List Value) (φ:Nat->Nat) (b:Nat):Prop:=enters prog k=true/\ ∀(n:Nat) w',ZT w w'->n<b->Gives prog k (ZU (n:Int)::cap).toArray w' λu w''=>ZT w' w''/\u= ZU ((φ n:Nat):Int)
theorem Idx.step {w w':World} {k:FuncId} {cap:List Value} {φ:Nat->Nat} {b:Nat} (h:Idx w k cap φ b) (hb:ZT w w'):Idx w' k cap φ b:=⟨h.1,λn a c d=>h.2 n a (hb.step c) d⟩
theorem Pm {p:Nat} (b:Blk w g 3 [ZU (p:Int)]) (hn:n<1000000):Gives prog 120 #[ZU (n:Int),.pointer (some ⟨g,0,none⟩)] w λu a=>ZT w a/\u= ZU ((sh p n:Nat):Int):=by
 refine gw func120 ntmps120 ?_;refine cd rfl (λh=> ?_) λh=> ?_
 .exact aO rfl ⟨bK,by unfold sh; rw [if_neg ZJ]; rfl⟩
 exact aO rfl ⟨bK,by unfold sh; rw [if_pos ZJ]⟩
theorem R5:Gives prog 49 #[ZU (n:Int)] w λu a=>ZT w a/\u= ZU ((n:Nat):Int):=by
 refine gw func49 ntmps49 ?_;exact aO rfl ⟨bK,rfl⟩
theorem Mo {l:List Int} {b:Nat} (hl:SL aS F w v l) (hs:l.length<=1000000) (L:Blk w g 104 [.func (.func k) #[] cap.toArray]) (y:Idx w k cap φ b) (z: ∀n∈l,0<=n/\n<(b:Int)) (M: ∀n,n<b->φ n<=1000000) :
  Gives prog 104 #[v,.pointer (some ⟨g,0,none⟩)] w λu o=>ZT w o/\SL aS (λk=>w.heap.size<=k/\k<o.heap.size) o u (dS φ l):=by
 refine gw func104 ntmps104 ?_;refine tK rfl rfl (BB ji Ub rfl) rfl rfl ZJ ZJ ?_;intro s N h;refine rn ?_;have O:=h.at_;have R:=h.size;have B:=L.lt;refine dA [1,4,10,11] (λi:Nat=> [(12,none,ZU (i:Int))])
  (λi W=>i<=l.length/\ZT w W/\Blk W s 3 ((dS φ (l.take i)).map (.int .i64)++List.replicate (l.length-i) (ZU 0))) (λi=>l.length-i) 0 ⟨ZB,h.below,by simpa [dS] using h.blk⟩ ?_
 rintro i W ⟨S,p,j⟩;refine rn ?_;refine cd rfl (λC=> ?_) λD=> ?_
 .have a:i<l.length:=ZJ;have E:=z l[i] (List.getElem_mem a);obtain ⟨n,m⟩: ∃n:Nat,l[i]=(n:Int):=⟨l[i].toNat,ZJ⟩;have q:n<b:=ZJ;refine Ue y.1 rfl (m ▸ (y.step p).2 n W ZA q) λU t=> ?_;refine sf rfl (j.next t) (hj:=by simp [dS]; omega) λY d r G=> ?_;refine cK (i+1) ⟨a,But.below (p.step t) r ZJ,?_⟩;have e:((dS φ (l.take i)).map (Value.int .i64)++List.replicate (l.length-i) (Value.int .i64 0)).set (((i:Nat):Int).toNat*1) (Value.int .i64 ((φ n:Nat):Int))=(dS φ (l.take (i+1))).map (.int .i64)++List.replicate (l.length-(i+1)) (Value.int .i64 0):=by
   show List.set _ (i*1) _=_;have H:((dS φ (l.take i)).map (Value.int .i64)).length=i:=by simp [dS]; omega
   rw [Nat.mul_one,List.set_append_right _ _ ZJ,H,Nat.sub_self,show l.length-i=(l.length-(i+1))+1 by omega,List.replicate_succ,List.set_cons_zero,ZG,ZD a];simp [dS,m]
  rw [e] at d;exact d
 .have a:i=l.length:=ZJ;subst a;refine aO rfl ⟨p,?_⟩;rw [List.take_length,Nat.sub_self,List.replicate_zero,List.append_nil] at j;have I:OwnS W 3 1 (.slice (some ⟨s,0,none⟩) l.length l.length) (dS φ l).length ((dS φ l).map (.int .i64)):=by
   have:=aU (sz:=1) (n:=l.length) j (by simp [dS]) ZJ
   rwa [show (dS φ l).length=l.length from List.length_map ..]
  refine dO I (λx J=> ?_) (λg K=>by simp [Value.ownBlock] at K; have:=j.lt; omega) (by simp [dS]; omega);obtain ⟨n,m,rfl⟩:=mem_renI.1 J;have:=z n m;have:=M n.toNat ZJ;unfold fF; omega
structure Ans where
 evs:List Ev
 ws:List (List Int)
 err:Int
def Ans.ren (φ:Nat->Nat) (a:Ans):Ans:=⟨a.evs.map (iR φ),a.ws.map (dS φ),a.err⟩
def RepA (F:Nat->Prop) (w:World) (cs:List Value) (a:Ans):Prop:= ∃ev wv,cs= [ev,wv,ZU a.err]/\SL evT F w ev a.evs/\SL (sliceT aS) F w wv a.ws
theorem RepA.mono {F:Nat->Prop} {w w':World} {cs:List Value} {a:Ans} (h:RepA F w cs a) (b:Kept F w w'):RepA F w' cs a:=by
 obtain ⟨c,d,e,f,g⟩:=h;exact ⟨c,d,e,f.mono b,g.mono b⟩
theorem RepA.wider {F G:Nat->Prop} {w:World} {cs:List Value} {a:Ans} (h:RepA F w cs a) (b: ∀k,F k->G k):RepA G w cs a:=by
 obtain ⟨c,d,e,f,g⟩:=h;exact ⟨c,d,e,f.wider b,g.wider b⟩
structure Ans.Fine (a:Ans) (b:Nat):Prop where
 e:a.evs.length<=14
 n: ∀x∈a.evs,x.needs.length<=1000000/\ ∀n∈x.needs,0<=n/\n<(b:Int)
 w:a.ws.length<=1000000
 s: ∀x∈a.ws,x.length<=1000000/\ ∀n∈x,0<=n/\n<(b:Int)
 b:b<=1000000
theorem CQ {cs:List Value} {a:Ans} {b:Nat} (hA:RepA F w cs a) (hf:a.Fine b) (hk:Idx w k cap φ b) (hφ: ∀n,n<b->φ n<=1000000) :
  Gives prog 48 #[.agg cs.toArray,.func (.func k) #[] cap.toArray] w λu w'=>ZT w w'/\ ∃cs',u= .agg cs'.toArray/\RepA (λk=>w.heap.size<=k/\k<w'.heap.size) w' cs' (a.ren φ):=by
 obtain ⟨ev,wv,rfl,hE,hW⟩:=hA
 replace hE:=hE.now pW
 replace hW:=hW.now (iQ fV)
 obtain ⟨A,ac,rfl,_⟩:=hE.form;obtain ⟨B,bc,rfl,_⟩:=hW.form;refine gw func48 ntmps48 ?_;refine nw rfl λg2 w2 f2=> ?_;refine nw rfl λg3 w3 f3=> ?_;refine na qw λg4 w4 f4=> ?_;refine eD [.slice none 0 0,.slice none 0 0,ZU a.err] rfl ?_;refine nv qw rfl λg6 w6 f6=> ?_;have q2:=f2.at_;have q3:=f3.at_;have q4:=f4.at_;have q6:=f6.at_;have z2:=f2.size;have z3:=f3.size;have z4:=f4.size;have z6:=f6.size;refine dA [2,4,5,6,16,17] (λx:Nat×Value×List (List Value×Ev)=> [(18,none,ZU (x.1:Int))])
  (λx W=>x.1<=a.evs.length/\ZT w4 W/\w6.heap.size<=W.heap.size/\Blk W g6 101 [x.2.1,.slice none 0 0,ZU a.err]/\RowB evT W 68 w6.heap.size x.2.1 x.2.2/\x.2.2.map (·.2)=(a.evs.take x.1).map (iR φ)) (λx=>a.evs.length-x.1) (0,.slice none 0 0,[]) ⟨ZB,f6.below,ZC,f6.blk,RowB.nil _ _ _ _,rfl⟩ ?_
 have h14:=hf.e;rintro ⟨i,rv,ps⟩ W ⟨hi,hB4,hsz,hB6,hR,hps⟩;dsimp only at hi hB6 hR hps;have hl:ps.length=i:=by
  have:=congrArg List.length hps;simp at this; omega
 refine rn ?_;refine cd rfl (λhlt=> ?_) λhge=> ?_
 .have hil:i<a.evs.length:=by dsimp only at hlt; omega
  obtain ⟨ad,rfl⟩:=hE.addr ZJ;have hx:a.evs[i]?=some a.evs[i]:=ZD hil;have hfe:=hf.n a.evs[i] (List.getElem_mem hil);have hEW:SL evT _ W _ _:=hE.below tr;obtain ⟨nd,hcells,i1,i2,i3,hN⟩:=SE.get hEW hx;obtain ⟨ND,ndc,rfl,_⟩:=hN.form;refine rn ?_;refine nv tX rfl λg8 w8 f8=> ?_;have q8:=f8.at_;have z8:=f8.size;refine Xo ZK rfl (vs:= [_]) (cap:= [.pointer (some ⟨g3,0,none⟩)]) (Mo (hN.below f8.below) hfe.1 tr (hk.step tr) hfe.2 hφ) λu w9 b9 hu=> ?_;have z9:=b9.size;obtain ⟨U,uc,rfl,_⟩:=hu.form;refine sf rfl (f8.blk.next b9) λw10 hB10 hb10 hs10=> ?_;have hW10:ZT W w10:=bK;have hu10:=SL.mono hu (w':=w10) (Kept.of_blocks λk hk hlt=>hb10.block k hlt (λe=>by cases e; omega));have hro: ∀k,rv.ownBlock=some k->k<W.heap.size:=λk hk=>hR.1.lt hk;refine ra (T:=evT) (a:=iR φ a.evs[i]) AL Gd rfl (hR.step hW10) ⟨_,rfl,i1,i2,i3,hu10.wider λk hk=>⟨ZJ,ZJ,λe=>by have:=hro k e; omega⟩⟩ rfl ZJ ZJ λg11 rv' w11 hR11 hg11 hn11 h11=> ?_;have hB6':Blk w11 g6 _ _:=GB.blk hg11 (hB6.next hW10) (λe=>by have:=hR.2.2 _ e; omega);refine sf rfl hB6' λw12 hB12 hb12 hs12=> ?_;have hb11:ZT w4 w11:=Below.grown (hB4.step hW10) hg11 (by have:=hB4.size; have:=hW10.size; omega) (λk hk=>by have:=hR.2.2 k hk; omega)
  have z11:=hg11.size;refine cK (i+1,rv',ps++ [([ZU a.evs[i].office,ZU a.evs[i].low,ZU a.evs[i].high,.slice U (dS φ a.evs[i].needs).length uc],iR φ a.evs[i])]) ⟨hil,But.below hb11 hb12 ZJ,ZJ,hB12,?_,?_⟩
  .exact hR11.but hb12 ZJ
  .show (ps++ [_]).map _=(a.evs.take (i+1)).map _;rw [List.map_append,hps,ZG,hx,List.map_append];rfl
 have hil:i=a.evs.length:=by dsimp only at hge; omega
 subst hil;have hEv:SL evT (λk=>w6.heap.size<=k/\k<W.heap.size) W rv (a.evs.map (iR φ)):=by
  have:=hR.sl ZL;rw [hps,List.take_length] at this;exact this
 refine dA [4,5,6,35,36] (λx:Nat×Value×List (List Value×List Int)=> [(37,none,ZU (x.1:Int))])
  (λx W2=>x.1<=a.ws.length/\ZT w4 W2/\W.heap.size<=W2.heap.size/\Blk W2 g6 101 [rv,x.2.1,ZU a.err]/\SL evT (λk=>w6.heap.size<=k/\k<W.heap.size) W2 rv (a.evs.map (iR φ))/\RowB (sliceT aS) W2 66 W.heap.size x.2.1 x.2.2/\x.2.2.map (·.2)=(a.ws.take x.1).map (dS φ)) (λx=>a.ws.length-x.1) (0,.slice none 0 0,[]) ⟨ZB,hB4,ZC,hB6,hEv,RowB.nil _ _ _ _,rfl⟩ ?_
 have hm:=hf.w;rintro ⟨j,rv2,ps2⟩ W2 ⟨hj,hC4,hsz2,hC6,hEv2,hR2,hps2⟩;dsimp only at hj hC6 hR2 hps2;have hl2:ps2.length=j:=by
  have:=congrArg List.length hps2;simp at this; omega
 refine rn ?_;refine cd rfl (λhlt=> ?_) λhge=> ?_
 .have hjl:j<a.ws.length:=by dsimp only at hlt; omega
  obtain ⟨bd,rfl⟩:=hW.addr ZJ;have hx:a.ws[j]?=some a.ws[j]:=ZD hjl;have hfs:=hf.s a.ws[j] (List.getElem_mem hjl);have hWW:SL (sliceT aS) _ W2 _ _:=hW.below tr;obtain ⟨sv,hcell,hsl⟩:=SL.row hWW hx;have hlo: ∀k,rv2.ownBlock=some k->W.heap.size<=k:=hR2.2.2;have hro: ∀k,rv2.ownBlock=some k->k<W2.heap.size:=λk hk=>hR2.1.lt hk;have hw4:w.heap.size<=W.heap.size:=ZJ;refine rn ?_;refine dP mixed λW3 hW3=> ?_;refine jT rv2.ownBlock 47 8 ZK ZK rfl rfl hW3 ?_;refine bP rfl rfl if101_1.q rfl ct ?_;refine gU rfl rfl io40.q rfl ct (λ_=>⟨hC6.fld rfl,λe=>by have:=hlo _ e; rw [dQ] at this; dsimp only at this; omega⟩) ?_;refine fO rfl rfl rfl ct ?_;refine fO rfl rfl rfl ct ?_;have hgk: ∀ {u w1 w2},w1.grownBy w2 rv2.ownBlock->SL aS (λk=>W2.heap.size<=k/\k<w1.heap.size/\rv2.ownBlock≠some k) w1 u (dS φ a.ws[j])->SL aS (λk=>W2.heap.size<=k/\k<w2.heap.size/\rv2.ownBlock≠some k) w2 u (dS φ a.ws[j]):=λhg h=>(SL.mono h (Kept.of_blocks λk hk hlt=>hg.block k hlt λe=>hk.2.2 e.symm)).wider λk hk=>⟨hk.1,Nat.lt_of_lt_of_le hk.2.1 hg.size,hk.2.2⟩
  refine Ez (cap:= [.pointer (some ⟨g3,0,none⟩)]) (λu w'=>SL aS (λk=>W2.heap.size<=k/\k<w'.heap.size/\rv2.ownBlock≠some k) w' u (dS φ a.ws[j])) (λu w1 w2 hg h=>hgk hg h) rfl rfl ZK rfl ct (cO rfl ct dR) (λ_ w' hg=> ?_) ?_
  .have h3:Blk w' g3 _ _:=GB.blk hg (tr:Blk W2 g3 _ [.func (.func k) #[] cap.toArray]) (λe=>by have:=hlo _ e; omega);have hbw:ZT w w':=Below.grown (bK:ZT w W2) hg (by have:=hC4.size; omega) (λk hk=>by have:=hlo k hk; omega);refine (Mo (F:=λk=>k<w.heap.size) (hsl.mono (Kept.of_blocks λk hk hlt=>hg.block k hlt λe=>by have:=hlo k e.symm; omega)) hfs.1 h3 (hk.step hbw) hfs.2 hφ).mono λu w'' ⟨q1,q2⟩=>⟨q1,q2.wider λk hk=>⟨Nat.le_trans hg.size hk.1,hk.2,λe=>by have:=hro k e; have:=hg.size; omega⟩⟩
  refine pI 66 [_] (λu w'=> ∃g nv,u= .slice (some ⟨g,0,none⟩) 1 1/\Blk w' g 66 [nv]/\W2.heap.size<=g/\SL aS (λk=>W2.heap.size<=k/\k<w'.heap.size/\rv2.ownBlock≠some k) w' nv (dS φ a.ws[j]))
   (λu w1 w2 hg ⟨g,nv,e,h1,h2,h3⟩=>⟨g,nv,e,GB.blk hg h1 (λe=>by have:=hro _ e; omega),h2,hgk hg h3⟩) rfl rfl rfl Qp (bC rfl ct eO) rfl rfl rfl (λ_ vs w' hg hs=> ?_) ?_
  .obtain ⟨u,rfl,hu⟩:=Sats.one hs;obtain ⟨U,uc,rfl,_⟩:=SL.form (T:=aS) (F:=λk=>W2.heap.size<=k/\k<w'.heap.size/\rv2.ownBlock≠some k) (w:=w') (l:=dS φ a.ws[j]) hu;exact ⟨λv hv=>by simp at hv; subst hv; rfl,λg w'' f=>⟨g,_,rfl,f.blk,Nat.le_trans hg.size (Nat.le_of_eq f.at_.symm),hgk (GB.of_below f.below) hu⟩⟩
  refine G4 (m:=1) _ (λv w'=> ∃nv,OwnS w' 66 1 v (ps2.length+1) (ps2.flatMap (·.1)++ [nv])/\(v.ownBlock=rv2.ownBlock\/ ∃k,v.ownBlock=some k/\W2.heap.size<=k)/\SL aS (λk=>W2.heap.size<=k/\k<w'.heap.size/\v.ownBlock≠some k) w' nv (dS φ a.ws[j]))
   (λv w1 w2 hb ⟨nv,h1,h2,h3⟩=>⟨nv,h1.below hb,h2,(h3.below hb).wider λk hk=>⟨hk.1,Nat.lt_of_lt_of_le hk.2.1 hb.size,hk.2.2⟩⟩) rfl rfl rfl Qg rfl hR2.1 rfl rfl ZJ ZJ (λu w' hg ⟨g,nv,e,h1,h2,h3⟩=> ?_) ?_
  .obtain ⟨U,uc,rfl,_⟩:=SL.form h3;refine ⟨g,[_],e,h1,rfl,λu hu=>by simp at hu; subst hu; rfl,λv' w'' hg' hO hn=>⟨_,hO,hn.imp id λh=>⟨_,h,hg.size⟩,(SL.mono h3 (Kept.of_blocks λk hk hlt=>hg'.block k hlt λe=>hk.2.2 e.symm)).wider λk hk=>⟨hk.1,Nat.lt_of_lt_of_le hk.2.1 hg'.size,λe=> ?_⟩⟩⟩;rcases hn with h|h
   .exact hk.2.2 (by rw [<-h]; exact e)
   .rw [h] at e; cases e; exact absurd hk.2.1 (Nat.lt_irrefl _)
  refine bP rfl rfl if101_1.q rfl ct ?_;refine uE (qh [4,5,6,35,36,37,48] _ rfl [47] rfl λvs w8 hg8 hs8=>gy ?_);obtain ⟨v47,rfl,nv',hO8,hn8,hsl8⟩:=Sats.one hs8;refine eu ZK ZK rfl ?_;have hR8:RowB (sliceT aS) w8 66 W.heap.size v47 (ps2++ [([nv'],dS φ a.ws[j])]):=KD hR2 hO8 hg8 hn8 ⟨_,rfl,hsl8.wider λk hk=>⟨ZJ,hk.2.1,hk.2.2⟩⟩ hsz2;have hC6':Blk w8 g6 _ _:=GB.blk hg8 hC6 (λe=>by have:=hlo _ e; omega);have h47:v47.oneCell'=true:=by
   obtain ⟨A,c,e,_⟩:=hR8.1.form;rw [e]; rfl
  have z8:=hg8.size;refine sf rfl hC6' λw9 hB9 hb9 hs9=> ?_;have hb8:ZT w4 w8:=hC4.grown hg8 hC4.size (λk hk=>by have:=hlo k hk; have:=hB4.size; omega);refine cK (j+1,v47,ps2++ [([nv'],dS φ a.ws[j])]) ⟨hjl,But.below hb8 hb9 ZJ,ZJ,hB9,?_,hR8.but hb9 ZJ,?_⟩
  .exact (hEv2.mono (Kept.of_blocks λk hk hlt=>hg8.block k hlt λe=>by have:=hlo k e.symm; omega)).mono (Kept.of_blocks λk hk hlt=>hb9.block k hlt λe=>by cases e; omega)
  .show (ps2++ [_]).map _=(a.ws.take (j+1)).map _;rw [List.map_append,hps2,ZG,hx,List.map_append];rfl
 have hjl:j=a.ws.length:=by dsimp only at hge; omega
 subst hjl;have hW2:SL (sliceT aS) (λk=>W.heap.size<=k/\k<W2.heap.size) W2 rv2 (a.ws.map (dS φ)):=by
  have:=hR2.sl ZL;rw [hps2,List.take_length] at this;exact this
 obtain ⟨A2,c2,rfl,_⟩:=hEv2.form;obtain ⟨A3,c3,rfl,_⟩:=hW2.form;refine sb rfl (tr:Blk W2 g4 _ [.slice none 0 0,.slice none 0 0,ZU 0]) λw9 hB9 hb9 hs9=> ?_;have k9: ∀(G:Nat->Prop),(∀k,G k->w6.heap.size<=k)->Kept G W2 w9:=λG hG=>Kept.of_blocks λk hk hlt=>hb9.block k hlt λe=>by cases e; have:=hG _ hk; omega
 refine rc rfl hB9 ⟨But.below (bK:ZT w W2) hb9 ZJ,_,rfl,_,_,rfl,(hEv2.mono (k9 _ λk hk=>hk.1)).wider λk hk=>⟨ZJ,ZJ⟩,(hW2.mono (k9 _ λk hk=>ZJ)).wider λk hk=>⟨ZJ,ZJ⟩⟩
def LabIs (w:World) (b:Nat) (S:ByteArray->Prop):Prop:= ∃m,MapL sK w b m/\(∀p∈m,p.2= .bool true)/\ ∀s,S s↔ ∃v,(s,v)∈m
theorem LabIs.below {w w':World} {b:Nat} {S:ByteArray->Prop} (h:LabIs w b S) (hb:ZT w w'):LabIs w' b S:=by
 obtain ⟨m,a,c⟩:=h;exact ⟨m,a.below hb,c⟩
instance {w:World} {b:Nat} {S:ByteArray->Prop}:Sta (LabIs w b S) w (λw=>LabIs w b S):=⟨λh b=>h.below b⟩
theorem LabIs.kept {w w':World} {b:Nat} {S:ByteArray->Prop} (h:LabIs w b S) (hb:w'.heap[b]?=w.heap[b]?):LabIs w' b S:=by
 obtain ⟨m,a,c⟩:=h;exact ⟨m,a.kept hb,c⟩
theorem LabIs.lt {w:World} {b:Nat} {S:ByteArray->Prop} (h:LabIs w b S):b<w.heap.size:=by
 obtain ⟨m,a,c⟩:=h;exact a.lt
theorem LabIs.congr {b:Nat} {S T:ByteArray->Prop} (h:LabIs w b S) (hs: ∀s,T s↔S s):LabIs w b T:=by
 obtain ⟨m,a,c,d⟩:=h;exact ⟨m,a,c,λs=>(hs s).trans (d s)⟩
theorem LabIs.put {w':World} {b:Nat} {m:List (ByteArray×Value)} {k:ByteArray} {S:ByteArray->Prop} (i: ∀p∈m,p.2= .bool true) (f: ∀s,S s↔ ∃v,(s,v)∈m) (h:MapL sK w' b (jK m k (.bool true))):LabIs w' b (λs=>s=k\/S s):=by
 refine ⟨_,h,λp c=> ?_,λs=> ?_⟩
 .rcases mem_lput.1 c with rfl|⟨c,_⟩
  .rfl
  .exact i p c
 .constructor
  .intro g;by_cases d:s=k
   .exact ⟨_,mem_lput.2 (.inl (by rw [d]))⟩
   .obtain ⟨v,a⟩:=(f s).1 (g.resolve_left d);exact ⟨v,mem_lput.2 (.inr ⟨a,d⟩)⟩
  .rintro ⟨v,a⟩;rcases mem_lput.1 a with e|⟨a,_⟩
   .cases e; exact .inl rfl
   .exact .inr ((f s).2 ⟨v,a⟩)
theorem MI {b:Nat} {S:ByteArray->Prop} {s:ByteArray} (h:LabIs w b S):Gives prog 117 #[.map (some b),.string s] w λu d=>d=w/\u= .bool (dec (S s)):=by
 obtain ⟨m,g,i,c⟩:=h;refine gw func117 ntmps117 ?_;refine ik sK s rfl rfl underlying182 Ua rfl rfl g ?_;intro v a;have e:v= .bool (dec (S s)):=by
  rcases a with a|⟨j,rfl⟩
  .rw [aD ((c s).2 ⟨v,a⟩)];exact i _ a
  .rw [aH λh=>by obtain ⟨v,a⟩:=(c s).1 h; exact j _ a rfl]
 subst e;refine rn ?_;exact aO rfl ⟨rfl,rfl⟩
theorem PW {a b:Nat} {S T:ByteArray->Prop} (ha:LabIs w a S) (hb:LabIs w b T) (a2:a≠b):Gives prog 201 #[.map (some a),.map (some b)] w λ_ w'=>But a w w'/\LabIs w' a (λs=>S s\/T s):=by
 obtain ⟨z,A,I,B⟩:=hb;refine gw func201 ntmps201 ?_;refine mY sK rfl rfl underlying182 rfl A ?_;intro H w1 e1 s1 b1 J;refine rn ?_;have a3:a<w.heap.size:=by obtain ⟨m,h,_⟩:=ha; exact h.lt
 refine dA [0,7] (λ_:List ByteArray=> []) (λg W=>But a w W/\w1.heap.size<=W.heap.size/\(∃l,WalkM sK W H b z g l)/\LabIs W a (λs=>S s\/(s∈g/\T s))/\g.Nodup/\ ∀k∈g,∃v,(k,v)∈z) (λg=>z.length-g.length) [] ⟨.of_below b1,ZC,⟨_,J⟩,(ha.below b1).congr ZM,List.nodup_nil,ZM⟩ ?_;rintro g W ⟨n,hz,⟨l,K⟩,L,M,C⟩;refine rn ?_;refine pE sK rfl rfl rfl K (λD=> ?_) λk v w2 t N a4 d O i=> ?_
 .refine rn ?_;refine cF rfl ?_;refine oU rfl ⟨n,L.congr λs=>or_congr_right ⟨λh=>⟨?_,h⟩,λh=>h.2⟩⟩;obtain ⟨v,u⟩:=(B s).1 h;exact D _ u
 have u:=I _ t;dsimp only at u;subst u;have p:a≠H:=ZJ;have R:=L.kept (w':=w2) (d.block a L.lt (λe=>p (by cases e; rfl)));refine rn ?_;refine cT rfl ?_;refine mZ sK rfl rfl rfl i ?_;refine rn ?_;obtain ⟨m2,U,Y,Z⟩:=R;refine dM sK k rfl underlying182 rfl rfl rfl U ?_;intro w3 a5 c a0;refine rn ?_;have E:H<w2.heap.size:=by obtain ⟨o,ho,_⟩:=i.iter; exact (Array.getElem?_eq_some_iff.1 ho).1
 have a6:=A.lt;have r:(g++ [k]).Nodup:=List.nodup_append.2 ⟨M,ZM,λx F y hy e=>by simp at hy; subst hy e; exact N F⟩;have j: ∀x∈g++ [k],∃v,(x,v)∈z:=λx F=>by
  rcases ZH F with h|h
  .exact C x h
  .simp at h; subst h; exact ⟨_,t⟩
 refine cK (g++ [k]) ⟨?_,ZJ,⟨_,i.kept (c.block H E (λe=>by cases e; exact p rfl)) (c.block b ZJ (λe=>by cases e; exact a2 rfl))⟩,?_,r,j⟩ ?_
 .exact ⟨c.os.trans (d.os.trans n.os),c.tape.trans (d.tape.trans n.tape),c.output.trans (d.output.trans n.output),by have:=n.size; omega,λq hq G=>(c.block q (by have:=n.size; omega) G).trans ((d.block q (by have:=n.size; omega) (λe=>by cases e; omega)).trans (n.block q hq G))⟩
 .refine (LabIs.put Y Z a0).congr λs=> ?_;have hT:T k:=(B k).2 ⟨_,t⟩;simp only [List.mem_append,List.mem_singleton];constructor
  .rintro (h|⟨h|rfl,h'⟩)
   .exact .inr (.inl h)
   .exact .inr (.inr ⟨h,h'⟩)
   .exact .inl rfl
  .rintro (rfl|h|⟨h,h'⟩)
   .exact .inr ⟨.inr rfl,hT⟩
   .exact .inl h
   .exact .inr ⟨.inl h,h'⟩
 .have a1:=dY (k:=z.map (·.1)) r λx F=>by
   obtain ⟨v,u⟩:=j x F;exact List.mem_map.2 ⟨_,u,rfl⟩
  simp at a1 ⊢;omega
structure LstAt (F:Nat->Prop) (w:World) (p:Nat) (recs:List Rc):Prop where
 lt:p<w.heap.size
 cell: ∃lv,w.cell? (Addr.add ⟨p,0,none⟩ 10)=some lv/\SL rcT F w lv recs
theorem LstAt.below {F:Nat->Prop} {w w':World} {p:Nat} {recs:List Rc} (h:LstAt F w p recs) (hb:ZT w w'):LstAt F w' p recs:=by
 obtain ⟨a,b,c,d⟩:=h;exact ⟨Nat.lt_of_lt_of_le a hb.size,b,Rb c hb,d.below hb⟩
theorem IX {p:Nat} {G:Nat->Prop} {recs:List Rc} {x:Rc} {xv:Value} (hL:LstAt F w p recs) (hx:RcOK G w xv x) (hn:recs.length<=1000000) (hs:x.cont.length<=1000000) (af: ∀r∈recs,r.cont.length<=1000000) :
  Gives prog 116 #[.pointer (some ⟨p,0,none⟩),.agg (iq x xv).toArray] w λu w'=>ZT w w'/\ ∃b,u= .map (some b)/\w.heap.size<=b/\LabIs w' b (Tch recs x 3):=by
 obtain ⟨_,lv,an,O⟩:=hL;obtain ⟨A,ao,rfl,_⟩:=O.form;have R:=hx.ct;obtain ⟨C,ag,rfl,_⟩:=R.form;refine gw func116 ntmps116 ?_;refine nw rfl λg3 z L=> ?_;refine eZ sK rfl rfl ?_;intro b w4 e4 s4 b4 S;refine rn ?_;refine rz sK x.label rfl underlying182 rfl rfl rfl S ?_;intro w5 ap c U;have B3:=c.blk (L.blk.next b4) (show g3≠b by have:=L.size; have:=L.at_; omega);have Y:LabIs w5 b (λs=>s=x.label\/False):=LabIs.put (m:= []) ZM ZM U;have a0:ZT z w5:=But.below b4 c ZJ;refine rn ?_;have n:prog.underlying 182=some (.map 9 4):=underlying182;have d: ∀ {i:Nat} {l:List ByteArray} (hi:i<l.length) (s:ByteArray),s∈l.take (i+1)↔s=l[i]\/s∈l.take i:=λ{i l} hi s=>by
  rw [ZG,ZD hi];simp only [List.mem_append,Option.toList,List.mem_singleton];exact or_comm
 refine dA [0,5,18,19] (λi:Nat=> [(20,none,ZU (i:Int))]) (λi W=>i<=x.cont.length/\ZT z W/\LabIs W b (λs=>s=x.label\/s∈x.cont.take i)) (λi=>x.cont.length-i) 0 ⟨ZB,a0,Y.congr ZM⟩ ?_;rintro i W ⟨hi,hW,o⟩;refine rn ?_;refine cd rfl (λa1=> ?_) λa2=> ?_
 .have e:i<x.cont.length:=ZJ;obtain ⟨m,h1,h2,M⟩:=o;refine dM sK x.cont[i] rfl n rfl rfl rfl h1 ?_;intro w6 a3 a q;refine rn ?_;refine cK (i+1) ⟨e,But.below hW a ZJ,(LabIs.put h2 M q).congr λs=> ?_⟩;rw [d e];exact or_left_comm
 have t:i=x.cont.length:=ZJ;subst t;rw [List.take_length] at o;refine dA [0,5] (λi:Nat=> [(27,none,ZU (i:Int))]) (λr W=>r<=3/\ZT z W/\LabIs W b (Tch recs x r)) (λr=>3-r) 0 ⟨ZB,hW,o⟩ ?_;rintro r N ⟨hr,a4,hT⟩;refine rn ?_;refine cd rfl (λa1=> ?_) λa2=> ?_
 .refine eZ sK rfl rfl ?_;intro b2 w7 e7 s7 b7 a5;refine rn ?_;have aq:=hT.lt;refine dA [0,5,8,27,33,34] (λi:Nat=> [(35,none,ZU (i:Int))]) (λi W=>i<=recs.length/\ZT N W/\LabIs W b2 (λs=> ∃m∈recs.take i,Tch recs x r m.label/\s∈m.cont)) (λi=>recs.length-i) 0 ⟨ZB,b7,⟨[],a5,ZM,ZM⟩⟩ ?_;rintro j W2 ⟨hj,D,g⟩;refine rn ?_;refine cd rfl (λah=> ?_) λai=> ?_
  .have k:j<recs.length:=ZJ;obtain ⟨ad,rfl⟩:=O.addr ZJ;have hz:recs[j]?=some recs[j]:=ZD k;obtain ⟨zv,ar,a6⟩:=SR.get O hz;have au:=af _ (List.getElem_mem k);have a7:=a6.ct;obtain ⟨Z,aj,rfl,_⟩:=a7.form;refine rn ?_;refine nv BC rfl λg9 w9 f9=> ?_;obtain ⟨m,h1,h2,M⟩:=(tr:LabIs w9 b (Tch recs x r));refine ik sK recs[j].label rfl rfl n Ua rfl rfl h1 ?_;intro v B;have ev:v= .bool (dec (Tch recs x r recs[j].label)):=by
    rcases B with B|⟨hn,rfl⟩
    .rw [aD ((M _).2 ⟨v,B⟩)];exact h2 _ B
    .rw [aH λh=>by obtain ⟨v,B⟩:=(M _).1 h; exact hn _ B rfl]
   subst ev;refine rn ?_;have ak:=g.lt;have q9:=f9.at_;have E: ∀(s:ByteArray),(∃m∈recs.take (j+1),Tch recs x r m.label/\s∈m.cont)↔(∃m∈recs.take j,Tch recs x r m.label/\s∈m.cont)\/(Tch recs x r recs[j].label/\s∈recs[j].cont):=λs=>by
    rw [ZG,hz];simp only [List.mem_append,Option.toList,List.mem_singleton,or_and_right,exists_or,exists_eq_left]
   refine iG rfl (λH=> ?_) λI=> ?_
   .refine cK (j+1) ⟨k,bK,(g.below f9.below).congr λs=> ?_⟩;rw [E];have: ¬Tch recs x r recs[j].label:=λh=>by rw [aD h] at H; cases H
    exact ⟨λh=>h.elim id λh=>absurd h.1 this,.inl⟩
   have a8:Tch recs x r recs[j].label:=dec_iff.1 (by simpa using I);refine dA [0,5,8,27,33,34,35,45,46] (λi:Nat=> [(47,none,ZU (i:Int))]) (λi W=>i<=recs[j].cont.length/\ZT N W/\LabIs W b2 (λs=>(∃m∈recs.take j,Tch recs x r m.label/\s∈m.cont)\/s∈recs[j].cont.take i)) (λi=>recs[j].cont.length-i) 0 ⟨ZB,bK,(g.below f9.below).congr ZM⟩ ?_;rintro i W3 ⟨av,J,K⟩;refine rn ?_;refine cd rfl (λal=> ?_) λam=> ?_
   .have e:i<recs[j].cont.length:=ZJ;obtain ⟨m3,k1,k2,k3⟩:=K;refine dM sK recs[j].cont[i] rfl n rfl rfl rfl k1 ?_;intro w6 a3 a q;refine rn ?_;refine cK (i+1) ⟨e,But.below J a ZJ,(LabIs.put k2 k3 q).congr λs=> ?_⟩;rw [d e];exact or_left_comm
   have t:i=recs[j].cont.length:=ZJ;subst t;refine cK (j+1) ⟨k,J,K.congr λs=> ?_⟩;rw [E,List.take_length];exact or_congr_right ⟨λh=>h.2,λh=>⟨a8,h⟩⟩
  have a9:j=recs.length:=ZJ;subst a9;rw [List.take_length] at g;have aa:=hT.below D;refine aN rfl (PW aa g ZJ) ?_;rintro y w8 ⟨ab,ac⟩;refine rn ?_;refine cK (r+1) ⟨ZJ,But.below (a4.step D) ab ZJ,ac⟩
 have ae:r=3:=ZJ;subst ae;exact aO rfl ⟨bK,b,rfl,by have:=L.below.size; omega,hT⟩
end Go.Proofs.YtoleahhfkpkcjaaGreatDoor
