/- Texts of this claim,joined. -/
import Derived.Test.YtobaafdejnimkaaGreatDoorQI
import Derived.Shelf.Strings.OnBuilder
import Derived.Shelf.Sort.Plain
import Derived.Shelf.Strings.FuncGrows
import Derived.Shelf.Slices.In.SortNone
import Derived.Test.YtobaafdejnimkaaGreatDoorProg
import Derived.Sort.OwnSortedInts
set_option linter.unusedSimpArgs false
set_option linter.unusedVariables false
set_option maxRecDepth 100000
set_option maxHeartbeats 4000000
namespace Go.Ord
abbrev Ln:=Nat×Nat×Int
inductive ReachL (L:List Ln):Nat→Nat→Prop
 | refl (a:Nat):ReachL L a a
 | step {a b c:Nat} {t:Int}:ReachL L a b→(b,c,t)∈L→ReachL L a c
theorem ReachL.trans {L:List Ln} {a b c:Nat} (h:ReachL L a b) (k:ReachL L b c):ReachL L a c:=by
 induction k with
 | refl=>exact h
 | step _ hm ih=>exact ih.step hm
theorem ReachL.one {L:List Ln} {a b:Nat} {t:Int} (h:(a,b,t)∈L):ReachL L a b:=(ReachL.refl a).step h
abbrev Tab12:=List Int
def g12 (M:Tab12) (a b:Nat):Int:=M.getD (12*a+b) (-1)
def relax12 (M:Tab12) (a b:Nat) (t:Int):Tab12:=if g12 M a b= -1∨t<g12 M a b then M.set (12*a+b) t else M
theorem relax12_len (M:Tab12) (a b:Nat) (t:Int):(relax12 M a b t).length=M.length:=by
 unfold relax12
 split<;>simp
theorem g12_relax {M:Tab12} {a b:Nat} {t:Int} (hl:M.length=144) (ha:a<12) (hb:b<12) (x y:Nat) (hx:x<12) (hy:y<12) :
  g12 (relax12 M a b t) x y=if x=a∧y=b∧(g12 M a b= -1∨t<g12 M a b) then t else g12 M x y:=by
 unfold relax12
 by_cases hc:g12 M a b= -1∨t<g12 M a b
 ·rw [if_pos hc]
  unfold g12
  rw [List.getD_eq_getElem?_getD,List.getElem?_set]
  by_cases he:x=a∧y=b
  ·obtain ⟨rfl,rfl⟩:=he
   rw [if_pos rfl,if_pos (by omega),if_pos ⟨rfl,rfl,hc⟩]
   rfl
  ·rw [if_neg (by omega),if_neg (fun h=>he ⟨h.1,h.2.1⟩),List.getD_eq_getElem?_getD]
 ·rw [if_neg hc,if_neg (fun h=>hc h.2.2)]
def init12:Tab12:=(List.range 144).map fun i=>if i / 12=i%12 then 0 else -1
theorem g12_init {a b:Nat} (ha:a<12) (hb:b<12):g12 init12 a b=if a=b then 0 else -1:=by
 unfold g12 init12
 rw [List.getD_eq_getElem?_getD,List.getElem?_map,List.getElem?_range (by omega)]
 show (if (12*a+b) / 12=(12*a+b)%12 then (0:Int) else -1)=_
 have h1:(12*a+b) / 12=a:=by omega
 have h2:(12*a+b)%12=b:=by omega
 rw [h1,h2]
def lines12 (M:Tab12) (L:List Ln):Tab12:=L.foldl (fun M l=>relax12 M l.1 l.2.1 l.2.2) M
def via12 (o a:Nat) (M:Tab12) (b:Nat):Tab12:=if g12 M a o≠ -1∧g12 M o b≠ -1 then relax12 M a b (g12 M a o+g12 M o b) else M
def row12 (o:Nat) (M:Tab12) (a:Nat) (n:Nat):Tab12:=(List.range n).foldl (via12 o a) M
def rnd12 (M:Tab12) (o n:Nat):Tab12:=(List.range n).foldl (fun M a=>row12 o M a 12) M
def all12 (M:Tab12) (n:Nat):Tab12:=(List.range n).foldl (fun M o=>rnd12 M o 12) M
def relaxed12 (L:List Ln):Tab12:=all12 (lines12 init12 L) 12
theorem row12_succ (o:Nat) (M:Tab12) (a n:Nat):row12 o M a (n+1)=via12 o a (row12 o M a n) n:=by simp only [row12,List.range_succ,List.foldl_append,List.foldl_cons,List.foldl_nil]
theorem rnd12_succ (M:Tab12) (o n:Nat):rnd12 M o (n+1)=row12 o (rnd12 M o n) n 12:=by simp only [rnd12,List.range_succ,List.foldl_append,List.foldl_cons,List.foldl_nil]
theorem all12_succ (M:Tab12) (n:Nat):all12 M (n+1)=rnd12 (all12 M n) n 12:=by simp only [all12,List.range_succ,List.foldl_append,List.foldl_cons,List.foldl_nil]
theorem row12_zero (o:Nat) (M:Tab12) (a:Nat):row12 o M a 0=M:=by simp [row12]
theorem rnd12_zero (M:Tab12) (o:Nat):rnd12 M o 0=M:=by simp [rnd12]
theorem all12_zero (M:Tab12):all12 M 0=M:=by simp [all12]
theorem lines12_snoc (M:Tab12) (L:List Ln) (l:Ln):lines12 M (L++ [l])=relax12 (lines12 M L) l.1 l.2.1 l.2.2:=by simp [lines12]
def initL (k:Nat):Tab12:=(List.range 144).map fun i=>if i<k then (if i / 12=i%12 then 0 else -1) else 0
theorem initL_len (k:Nat):(initL k).length=144:=by simp [initL]
theorem initL_all:initL 144=init12:=by
 unfold initL init12
 refine List.map_congr_left fun i hi=> ?_
 rw [if_pos (List.mem_range.1 hi)]
theorem initL_zero:initL 0=List.replicate 144 0:=by
 unfold initL
 apply List.ext_getElem?
 intro i
 rw [List.getElem?_map,List.getElem?_replicate]
 by_cases hi:i<144
 ·rw [List.getElem?_range hi,if_pos hi]; rfl
 ·rw [List.getElem?_eq_none (by simpa using hi),if_neg hi]; rfl
theorem initL_succ {k:Nat} (hk:k<144):initL (k+1)=if k / 12=k%12 then initL k else (initL k).set k (-1):=by
 apply List.ext_getElem?
 intro i
 have e: ∀m,(initL m)[i]?=if i<144 then some (if i<m then (if i / 12=i%12 then 0 else -1) else 0) else none:=fun m=>by
  unfold initL
  rw [List.getElem?_map]
  by_cases hi:i<144
  ·rw [List.getElem?_range hi,if_pos hi]; rfl
  ·rw [List.getElem?_eq_none (by simpa using hi),if_neg hi]; rfl
 by_cases hd:k / 12=k%12
 ·rw [if_pos hd,e,e]
  by_cases hik:i=k
  ·subst hik
   rw [if_pos hk,if_pos hk,if_pos (by omega),if_pos hd,if_neg (by omega)]
  ·by_cases h:i<k
   ·rw [if_pos (show i<k+1 by omega),if_pos h]
   ·rw [if_neg (show¬i<k+1 by omega),if_neg h]
 ·rw [if_neg hd,List.getElem?_set,e,e]
  by_cases hik:k=i
  ·subst hik
   rw [if_pos rfl,if_pos hk,if_pos (by omega),if_neg hd,if_pos (by rw [initL_len]; exact hk)]
  ·rw [if_neg hik]
   by_cases h:i<k
   ·rw [if_pos (show i<k+1 by omega),if_pos h]
   ·rw [if_neg (show¬i<k+1 by omega),if_neg h]
structure T12 (L:List Ln) (B:Int) (M:Tab12):Prop where
 len:M.length=144
 diag: ∀a,a<12→g12 M a a=0
 rng: ∀a b,a<12→b<12→ -1≤g12 M a b∧g12 M a b≤B
 sound: ∀a b,a<12→b<12→g12 M a b≠ -1→ReachL L a b
theorem T12.more {L:List Ln} {B B':Int} {M:Tab12} (h:T12 L B M) (hb:B≤B'):T12 L B' M:=⟨h.len,h.diag,fun a b h1 h2=>⟨(h.rng a b h1 h2).1,Int.le_trans (h.rng a b h1 h2).2 hb⟩,h.sound⟩
def Le12 (M M':Tab12):Prop:= ∀a b,a<12→b<12→g12 M a b≠ -1→g12 M' a b≠ -1
theorem Le12.refl (M:Tab12):Le12 M M:=fun _ _ _ _ h=>h
theorem Le12.trans {a b c:Tab12} (h:Le12 a b) (k:Le12 b c):Le12 a c:=fun x y hx hy hn=>k x y hx hy (h x y hx hy hn)
theorem T12.init (L:List Ln):T12 L 0 init12:=by
 refine ⟨by simp [init12],fun a ha=>by rw [g12_init ha ha,if_pos rfl],fun a b ha hb=> ?_,fun a b ha hb h=> ?_⟩
 ·rw [g12_init ha hb]; split<;>omega
 ·rw [g12_init ha hb] at h
  by_cases e:a=b
  ·subst e; exact .refl _
  ·rw [if_neg e] at h; exact absurd rfl h
theorem T12.relax {L:List Ln} {B:Int} {M:Tab12} (h:T12 L B M) {a b:Nat} {t:Int} (ha:a<12) (hb:b<12) (ht:0≤t) (htB:t≤B) (hr:ReachL L a b):T12 L B (relax12 M a b t)∧Le12 M (relax12 M a b t)∧g12 (relax12 M a b t) a b≠ -1:=by
 have hg:=fun x y hx hy=>g12_relax (t:=t) h.len ha hb x y hx hy
 refine ⟨⟨by rw [relax12_len]; exact h.len,fun x hx=> ?_,fun x y hx hy=> ?_,fun x y hx hy hn=> ?_⟩,fun x y hx hy hn=> ?_,?_⟩
 ·rw [hg x x hx hx]
  split
  ·rename_i hc
   obtain ⟨rfl,rfl,hc⟩:=hc
   rw [h.diag _ hx] at hc
   omega
  ·exact h.diag x hx
 ·rw [hg x y hx hy]
  split
  ·omega
  ·exact h.rng x y hx hy
 ·rw [hg x y hx hy] at hn
  split at hn
  ·rename_i hc
   obtain ⟨rfl,rfl,_⟩:=hc
   exact hr
  ·exact h.sound x y hx hy hn
 ·rw [hg x y hx hy]
  split
  ·omega
  ·exact hn
 ·rw [hg a b ha hb]
  split
  ·omega
  ·rename_i hc
   intro e
   exact hc ⟨rfl,rfl,.inl e⟩
def LnOK (n:Nat) (L:List Ln):Prop:= ∀l∈L,l.1<n∧l.2.1<n∧1≤l.2.2∧l.2.2≤5000
theorem lines12_ok {L:List Ln}: ∀(K:List Ln) (M:Tab12),(∀l∈K,l∈L)→LnOK 12 L→T12 L 5000 M→T12 L 5000 (lines12 M K)∧Le12 M (lines12 M K)∧ ∀l∈K,g12 (lines12 M K) l.1 l.2.1≠ -1
 | [],M,_,_,h=>⟨h,Le12.refl _,fun l hl=>by cases hl⟩
 | l::K,M,hs,hL,h=>by
  have hl:=hL l (hs l (by simp))
  obtain ⟨h1,h2,h3⟩:=h.relax (t:=l.2.2) hl.1 hl.2.1 (by omega) hl.2.2.2 (ReachL.one (t:=l.2.2) (hs l (by simp)))
  obtain ⟨k1,k2,k3⟩:=lines12_ok K (relax12 M l.1 l.2.1 l.2.2) (fun x hx=>hs x (by simp [hx])) hL h1
  refine ⟨k1,h2.trans k2,fun x hx=> ?_⟩
  rcases List.mem_cons.1 hx with rfl|hx
  ·exact k2 _ _ hl.1 hl.2.1 h3
  ·exact k3 x hx
structure R12 (L:List Ln) (B:Int) (o:Nat) (M0 M:Tab12):Prop where
 t:T12 L (2*B) M
 col: ∀x,x<12→g12 M x o=g12 M0 x o∧g12 M o x=g12 M0 o x
theorem R12.via {L:List Ln} {B:Int} {o a b:Nat} {M0 M:Tab12} (h0:T12 L B M0) (h:R12 L B o M0 M) (ho:o<12) (ha:a<12) (hb:b<12):R12 L B o M0 (via12 o a M b)∧Le12 M (via12 o a M b)∧(g12 M0 a o≠ -1→g12 M0 o b≠ -1→g12 (via12 o a M b) a b≠ -1):=by
 unfold via12
 by_cases hc:g12 M a o≠ -1∧g12 M o b≠ -1
 ·rw [if_pos hc]
  have e1:=(h.col a ha).1
  have e2:=(h.col b hb).2
  have r1:=h0.rng a o ha ho
  have r2:=h0.rng o b ho hb
  rw [e1,e2] at hc ⊢
  obtain ⟨k1,k2,k3⟩:=h.t.relax (t:=g12 M0 a o+g12 M0 o b) ha hb (by omega) (by omega) ((h0.sound a o ha ho hc.1).trans (h0.sound o b ho hb hc.2))
  refine ⟨⟨k1,fun x hx=> ?_⟩,k2,fun _ _=>k3⟩
  have hd:=h0.diag o ho
  have hco:=h.col o ho
  constructor
  ·rw [g12_relax h.t.len ha hb x o hx ho,←(h.col x hx).1]
   by_cases hq:x=a∧o=b∧(g12 M a b= -1∨g12 M0 a o+g12 M0 o b<g12 M a b)
   ·obtain ⟨rfl,rfl,hq⟩:=hq
    rw [hd,e1] at hq
    omega
   ·rw [if_neg hq]
  ·rw [g12_relax h.t.len ha hb o x ho hx,←(h.col x hx).2]
   by_cases hq:o=a∧x=b∧(g12 M a b= -1∨g12 M0 a o+g12 M0 o b<g12 M a b)
   ·obtain ⟨rfl,rfl,hq⟩:=hq
    rw [hd,e2] at hq
    omega
   ·rw [if_neg hq]
 ·rw [if_neg hc]
  refine ⟨h,Le12.refl _,fun h1 h2=>absurd ⟨?_,?_⟩ hc⟩
  ·rw [(h.col a ha).1]; exact h1
  ·rw [(h.col b hb).2]; exact h2
theorem R12.row {L:List Ln} {B:Int} {o a:Nat} {M0 M:Tab12} (h0:T12 L B M0) (ho:o<12) (ha:a<12) (h:R12 L B o M0 M): ∀(n:Nat),n≤12→R12 L B o M0 (row12 o M a n)∧Le12 M (row12 o M a n)∧ ∀b,b<n→g12 M0 a o≠ -1→g12 M0 o b≠ -1→g12 (row12 o M a n) a b≠ -1:=by
 intro n
 induction n with
 | zero =>
  intro _
  rw [show row12 o M a 0=M from rfl]
  exact ⟨h,Le12.refl _,fun b hb=>by omega⟩
 | succ n ih =>
  intro hn
  obtain ⟨k1,k2,k3⟩:=ih (by omega)
  have e:row12 o M a (n+1)=via12 o a (row12 o M a n) n:=by simp only [row12,List.range_succ,List.foldl_append,List.foldl_cons,List.foldl_nil]
  rw [e]
  obtain ⟨j1,j2,j3⟩:=R12.via (b:=n) h0 k1 ho ha (by omega)
  refine ⟨j1,k2.trans j2,fun b hb g1 g2=> ?_⟩
  rcases Nat.lt_or_ge b n with hlt|hge
  ·exact j2 a b ha (by omega) (k3 b hlt g1 g2)
  ·have:b=n:=by omega
   subst this
   exact j3 g1 g2
theorem R12.rnd {L:List Ln} {B:Int} {o:Nat} {M0:Tab12} (hB:0≤B) (h0:T12 L B M0) (ho:o<12): ∀(n:Nat),n≤12→R12 L B o M0 (rnd12 M0 o n)∧Le12 M0 (rnd12 M0 o n)∧ ∀(a b:Nat),a<n→b<12→g12 M0 a o≠ -1→g12 M0 o b≠ -1→g12 (rnd12 M0 o n) a b≠ -1:=by
 intro n
 induction n with
 | zero =>
  intro _
  rw [show rnd12 M0 o 0=M0 from rfl]
  exact ⟨⟨h0.more (by omega),fun x _=>⟨rfl,rfl⟩⟩,Le12.refl _,fun a b ha=>by omega⟩
 | succ n ih =>
  intro hn
  obtain ⟨k1,k2,k3⟩:=ih (by omega)
  have e:rnd12 M0 o (n+1)=row12 o (rnd12 M0 o n) n 12:=by simp only [rnd12,List.range_succ,List.foldl_append,List.foldl_cons,List.foldl_nil]
  rw [e]
  obtain ⟨j1,j2,j3⟩:=R12.row h0 ho (by omega:n<12) k1 12 (by omega)
  refine ⟨j1,k2.trans j2,fun a b ha hb g1 g2=> ?_⟩
  rcases Nat.lt_or_ge a n with hlt|hge
  ·exact j2 a b (by omega) hb (k3 a b hlt hb g1 g2)
  ·have:a=n:=by omega
   subst this
   exact j3 b hb g1 g2
inductive WayL (L:List Ln) (k:Nat):Nat→Nat→Prop
 | refl (a:Nat):WayL L k a a
 | one {a b:Nat} {t:Int}:(a,b,t)∈L→WayL L k a b
 | step {a b c:Nat} {t:Int}:WayL L k a b→b<k→(b,c,t)∈L→WayL L k a c
theorem wayL_all {L:List Ln} {n:Nat} (hL:LnOK n L) {a b:Nat} (h:ReachL L a b):WayL L n a b:=by
 induction h with
 | refl=>exact .refl _
 | step _ hm ih=>exact ih.step (hL _ hm).1 hm
theorem wayL_split {L:List Ln} {k a b:Nat} (h:WayL L (k+1) a b):WayL L k a b∨(WayL L k a k∧WayL L k k b):=by
 induction h with
 | refl=>exact .inl (.refl _)
 | one hm=>exact .inl (.one hm)
 | @step b c t hw hb hm ih =>
  rcases Nat.lt_or_ge b k with hlt|hge
  ·rcases ih with h|⟨h1,h2⟩
   ·exact .inl (h.step hlt hm)
   ·exact .inr ⟨h1,h2.step hlt hm⟩
  ·have:b=k:=by omega
   subst this
   rcases ih with h|⟨h1,_⟩
   ·exact .inr ⟨h,.one hm⟩
   ·exact .inr ⟨h1,.one hm⟩
theorem all12_ok {L:List Ln} {M:Tab12} (hM:T12 L 5000 M) (hone: ∀l∈L,g12 M l.1 l.2.1≠ -1) (hL:LnOK 12 L): ∀(n:Nat),n≤12→T12 L (5000*2 ^ n) (all12 M n)∧ ∀(a b:Nat),a<12→b<12→WayL L n a b→g12 (all12 M n) a b≠ -1:=by
 intro n
 induction n with
 | zero =>
  intro _
  rw [show all12 M 0=M from rfl]
  refine ⟨hM.more (by omega),fun a b ha hb hw=> ?_⟩
  cases hw with
  | refl =>
   rw [hM.diag a ha]
   decide
  | one hm=>exact hone _ hm
  | step _ h _=>omega
 | succ n ih =>
  intro hn
  obtain ⟨k1,k2⟩:=ih (by omega)
  have e:all12 M (n+1)=rnd12 (all12 M n) n 12:=by simp only [all12,List.range_succ,List.foldl_append,List.foldl_cons,List.foldl_nil]
  rw [e]
  have hp:(0:Int)≤5000*2 ^ n:=Int.mul_nonneg (by decide) (Int.pow_nonneg (by decide))
  obtain ⟨j1,j2,j3⟩:=R12.rnd hp k1 (by omega:n<12) 12 (by omega)
  refine ⟨j1.t.more (by rw [Int.pow_succ]; omega),fun a b ha hb hw=> ?_⟩
  rcases wayL_split hw with h|⟨h1,h2⟩
  ·exact j2 a b ha hb (k2 a b ha hb h)
  ·exact j3 a b ha hb (k2 a n ha (by omega) h1) (k2 n b (by omega) hb h2)
theorem table_at {L:List Ln} (hL:LnOK 12 L) {o a b:Nat} (ho:o<12) (ha:a<12) (hb:b≤12):T12 L 40960000 (row12 o (rnd12 (all12 (lines12 init12 L) o) o a) a b):=by
 obtain ⟨h1,h2,h3⟩:=lines12_ok L init12 (fun _ h=>h) hL ((T12.init L).more (by decide))
 obtain ⟨k1,_⟩:=all12_ok h1 h3 hL o (by omega)
 have hp:(0:Int)≤5000*2 ^ o:=Int.mul_nonneg (by decide) (Int.pow_nonneg (by decide))
 obtain ⟨j1,_,_⟩:=R12.rnd hp k1 ho a (by omega)
 obtain ⟨i1,_,_⟩:=R12.row k1 ho ha j1 b hb
 refine i1.t.more ?_
 have:(2:Int) ^ o≤2 ^ 12:=by
  have:=Nat.pow_le_pow_right (n:=2) (by decide) (show o≤12 by omega)
  exact_mod_cast this
 have e:(2:Int) ^ 12=4096:=by decide
 omega
theorem lines12_at {L:List Ln} (hL:LnOK 12 L) (K:List Ln) (hs: ∀l∈K,l∈L):T12 L 5000 (lines12 init12 K):=(lines12_ok K init12 hs hL ((T12.init L).more (by decide))).1
theorem relaxed12_ok {L:List Ln} (hL:LnOK 12 L):T12 L 20480000 (relaxed12 L)∧ ∀a b,a<12→b<12→(g12 (relaxed12 L) a b= -1↔ ¬ReachL L a b):=by
 obtain ⟨h1,h2,h3⟩:=lines12_ok L init12 (fun _ h=>h) hL ((T12.init L).more (by decide))
 obtain ⟨k1,k2⟩:=all12_ok h1 h3 hL 12 (by omega)
 refine ⟨k1,fun a b ha hb=>⟨fun h hr=>k2 a b ha hb (wayL_all hL hr) h,fun hn=>Classical.byContradiction fun h=>hn (k1.sound a b ha hb h)⟩⟩
def gB (r:List Int) (b:Nat):Int:=r.getD b (-1)
def rlxB (r:List Int) (l:Ln):List Int:=if 0≤gB r l.1∧(gB r l.2.1<0∨gB r l.1+l.2.2<gB r l.2.1) then r.set l.2.1 (gB r l.1+l.2.2) else r
def linesB (r:List Int) (L:List Ln):List Int:=L.foldl rlxB r
def rndsB (L:List Ln) (r:List Int):Nat→List Int
 | 0=>r
 | k+1=>linesB (rndsB L r k) L
def startB (n a:Nat):List Int:=(List.replicate n (-1:Int)).set a 0
def rowB (L:List Ln) (n a:Nat):List Int:=rndsB L (startB n a) n
theorem gB_set {r:List Int} {i:Nat} {x:Int} (hi:i<r.length) (b:Nat):gB (r.set i x) b=if b=i then x else gB r b:=by
 unfold gB
 rw [List.getD_eq_getElem?_getD,List.getElem?_set]
 by_cases h:i=b
 ·subst h
  rw [if_pos rfl,if_pos hi,if_pos rfl]
  rfl
 ·rw [if_neg h,if_neg (fun e=>h e.symm),List.getD_eq_getElem?_getD]
structure RB (L:List Ln) (n a:Nat) (B:Int) (r:List Int):Prop where
 len:r.length=n
 own:gB r a=0
 rng: ∀b,-1≤gB r b∧gB r b≤B
 sound: ∀b,b<n→0≤gB r b→ReachL L a b
def LeB (r s:List Int):Prop:= ∀b,0≤gB r b→0≤gB s b
theorem RB.start (L:List Ln) {n a:Nat} (ha:a<n):RB L n a 0 (startB n a):=by
 have hg: ∀b,gB (startB n a) b=if b=a then 0 else -1:=fun b=>by
  unfold startB
  rw [gB_set (by simpa using ha)]
  split
  ·rfl
  ·unfold gB
   rw [List.getD_eq_getElem?_getD,List.getElem?_replicate]
   split<;>rfl
 refine ⟨by simp [startB],by rw [hg,if_pos rfl],fun b=>by rw [hg]; split<;>omega,fun b _ h=> ?_⟩
 rw [hg] at h
 by_cases e:b=a
 ·subst e; exact .refl _
 ·rw [if_neg e] at h; omega
theorem RB.rlx {L:List Ln} {n a:Nat} {B:Int} {r:List Int} (h:RB L n a B r) (hB:0≤B) {l:Ln} (hl:l∈L) (h1:l.1<n) (h2:l.2.1<n) (h3:1≤l.2.2∧l.2.2≤5000):RB L n a (B+5000) (rlxB r l)∧LeB r (rlxB r l)∧(0≤gB r l.1→0≤gB (rlxB r l) l.2.1):=by
 unfold rlxB
 by_cases hc:0≤gB r l.1∧(gB r l.2.1<0∨gB r l.1+l.2.2<gB r l.2.1)
 ·rw [if_pos hc]
  have hg:=fun b=>gB_set (x:=gB r l.1+l.2.2) (by rw [h.len]; exact h2:l.2.1<r.length) b
  have hr1:=h.rng l.1
  refine ⟨⟨by simp [h.len],?_,fun b=> ?_,fun b hb hge=> ?_⟩,fun b hb=> ?_,fun _=> ?_⟩
  ·rw [hg]
   split
   ·rename_i e
    rw [←e] at hc
    have:=h.own
    omega
   ·exact h.own
  ·rw [hg]
   have:=h.rng b
   split<;>omega
  ·rw [hg] at hge
   split at hge
   ·rename_i e
    subst e
    exact (h.sound l.1 h1 hc.1).step (t:=l.2.2) hl
   ·exact h.sound b hb hge
  ·rw [hg]
   split<;>omega
  ·rw [hg,if_pos rfl]
   omega
 ·rw [if_neg hc]
  exact ⟨⟨h.len,h.own,fun b=>by have:=h.rng b; omega,h.sound⟩,fun b hb=>hb,fun h1=>by omega⟩
theorem RB.lines {L:List Ln} {n a:Nat} (hL:LnOK n L): ∀(K:List Ln) (B:Int) (r:List Int),(∀l∈K,l∈L)→0≤B→RB L n a B r→RB L n a (B+5000*K.length) (linesB r K)∧LeB r (linesB r K)∧ ∀l∈K,0≤gB r l.1→0≤gB (linesB r K) l.2.1
 | [],B,r,_,_,h=>⟨by simpa [linesB] using h,fun _ h=>h,fun l hl=>by cases hl⟩
 | l::K,B,r,hs,hB,h=>by
  have hl:=hL l (hs l (by simp))
  obtain ⟨h1,h2,h3⟩:=h.rlx hB (hs l (by simp)) hl.1 hl.2.1 hl.2.2
  obtain ⟨k1,k2,k3⟩:=RB.lines hL K (B+5000) (rlxB r l) (fun x hx=>hs x (by simp [hx])) (by omega) h1
  refine ⟨⟨k1.len,k1.own,fun b=> ?_,k1.sound⟩,fun b hb=>k2 b (h2 b hb),fun x hx hge=> ?_⟩
  ·have:=k1.rng b
   show -1≤gB (linesB (rlxB r l) K) b∧gB (linesB (rlxB r l) K) b≤_
   simp only [List.length_cons]
   omega
  ·rcases List.mem_cons.1 hx with rfl|hx
   ·exact k2 _ (h3 hge)
   ·exact k3 x hx (h2 _ hge)
theorem RB.rnds {L:List Ln} {n a:Nat} (hL:LnOK n L) (ha:a<n): ∀k:Nat,RB L n a (5000*(k*L.length:Nat)) (rndsB L (startB n a) k)
 | 0=>by simpa [rndsB] using RB.start L ha
 | k+1=>by
  have h:=RB.rnds hL ha k
  obtain ⟨h1,_,_⟩:=RB.lines hL L _ _ (fun _ h=>h) (by omega) h
  refine ⟨h1.len,h1.own,fun b=> ?_,h1.sound⟩
  have:=h1.rng b
  show -1≤gB (linesB _ L) b∧gB (linesB _ L) b≤_
  have e:(k+1)*L.length=k*L.length+L.length:=Nat.succ_mul _ _
  rw [e]
  omega
def cntB (n:Nat) (r:List Int):Nat:=((List.range n).filter fun b=>decide (0≤gB r b)).length
theorem cntB_le (n:Nat) (r:List Int):cntB n r≤n:=by
 unfold cntB
 have:=List.length_filter_le (fun b=>decide (0≤gB r b)) (List.range n)
 simpa using this
theorem filter_len_lt {α:Type} {p q:α→Bool}: ∀ {l:List α},(∀x∈l,p x=true→q x=true)→(∃x∈l,q x=true∧p x=false)→(l.filter p).length<(l.filter q).length
 | [],_,h=>by obtain ⟨x,hx,_⟩:=h; cases hx
 | y::l,h,h'=>by
  have hle:(l.filter p).length≤(l.filter q).length:=by
   clear h'
   induction l with
   | nil=>simp
   | cons z l ih =>
    have ih:=ih fun x hx=>h x (by simp at hx ⊢; rcases hx with h|h<;>simp [h])
    have hz:=h z (by simp)
    rw [List.filter_cons,List.filter_cons]
    split
    ·rename_i hp
     rw [if_pos (hz hp)]
     simpa using ih
    ·split<;>simp<;>omega
  obtain ⟨x,hx,h1,h2⟩:=h'
  rw [List.filter_cons,List.filter_cons]
  rcases List.mem_cons.1 hx with rfl|hx
  ·rw [if_pos h1,if_neg (by rw [h2]; simp)]
   simp
   omega
  ·have ih:=filter_len_lt (l:=l) (fun z hz=>h z (by simp [hz])) ⟨x,hx,h1,h2⟩
   have hy:=h y (by simp)
   split
   ·rename_i hp
    rw [if_pos (hy hp)]
    simpa using ih
   ·split<;>simp<;>omega
def ClosedB (L:List Ln) (r:List Int):Prop:= ∀l∈L,0≤gB r l.1→0≤gB r l.2.1
theorem rnds_closed {L:List Ln} {n a:Nat} (hL:LnOK n L) (ha:a<n): ∀k:Nat,ClosedB L (rndsB L (startB n a) k)∨k+1≤cntB n (rndsB L (startB n a) k)
 | 0=>by
  right
  have h:=(RB.start L ha).own
  unfold cntB
  have:a∈(List.range n).filter fun b=>decide (0≤gB (startB n a) b):=List.mem_filter.2 ⟨List.mem_range.2 ha,by rw [h]; rfl⟩
  exact List.length_pos_of_mem this
 | k+1=>by
  have h:=RB.rnds hL ha k
  obtain ⟨_,h2,h3⟩:=RB.lines hL L _ _ (fun _ h=>h) (by omega) h
  by_cases hs: ∀b,b<n→0≤gB (linesB (rndsB L (startB n a) k) L) b→0≤gB (rndsB L (startB n a) k) b
  ·left
   intro l hl hge
   have:=hL l hl
   exact h3 l hl (hs l.1 this.1 hge)
  ·have hex: ∃b,b<n∧0≤gB (linesB (rndsB L (startB n a) k) L) b∧ ¬0≤gB (rndsB L (startB n a) k) b:=Classical.byContradiction fun hn=>hs fun b hb hge=>Classical.byContradiction fun h=>hn ⟨b,hb,hge,h⟩
   obtain ⟨b,hb,hge,hno⟩:=hex
   have hlt:cntB n (rndsB L (startB n a) k)<cntB n (rndsB L (startB n a) (k+1)):=filter_len_lt (fun x _ hx=>decide_eq_true (h2 x (of_decide_eq_true hx))) ⟨b,List.mem_range.2 hb,decide_eq_true hge,decide_eq_false hno⟩
   rcases rnds_closed hL ha k with hc|hc
   ·-- closed before:nothing new
    exfalso
    have hr:=(RB.lines hL L _ _ (fun _ h=>h) (by omega) h).1.sound b hb hge
    have hall: ∀c,ReachL L a c→0≤gB (rndsB L (startB n a) k) c:=fun c hc'=>by
     induction hc' with
     | refl=>rw [h.own]; exact Int.le_refl _
     | step _ hm ih=>exact hc _ hm ih
    exact hno (hall b hr)
   ·right
    omega
theorem rowB_ok {L:List Ln} {n a:Nat} (hL:LnOK n L) (ha:a<n):(rowB L n a).length=n∧(∀b,-1≤gB (rowB L n a) b∧gB (rowB L n a) b≤5000*(n*L.length:Nat))∧ ∀b,b<n→(gB (rowB L n a) b<0↔ ¬ReachL L a b):=by
 have h:=RB.rnds hL ha n
 refine ⟨h.len,h.rng,fun b hb=>⟨fun hn hr=> ?_,fun hn=>Classical.byContradiction fun hge=>hn (h.sound b hb (by show 0≤gB (rowB L n a) b; omega))⟩⟩
 have hc:ClosedB L (rowB L n a):=by
  rcases rnds_closed hL ha n with h|h
  ·exact h
  ·have:=cntB_le n (rndsB L (startB n a) n); omega
 have hall: ∀c,ReachL L a c→0≤gB (rowB L n a) c:=fun c hc'=>by
  induction hc' with
  | refl=>rw [show gB (rowB L n a) a=0 from h.own]; exact Int.le_refl _
  | step _ hm ih=>exact hc _ hm ih
 have:=hall b hr
 omega
structure Cal where
 zone:Int
 week:List Bool
 hol:List Int
structure Of where
 name:ByteArray
 op:Int
 cal:Int
 pock:Int
 pass:Int
 mins:Int
 codes:List ByteArray
structure Li where
 name:ByteArray
 frm:Int
 to:Int
 at_:Int
 trav:Int
 load:Int
structure Cla where
 name:ByteArray
 cut:Int
 del:Int
structure Net where
 cals:List Cal
 names:List ByteArray
 ops:List ByteArray
 offs:List Of
 lines:List Li
 classes:List Cla
def byteA (s:ByteArray) (i:Nat):Nat:=(s.data.getD i 0).toNat
structure CalOK (c:Cal):Prop where
 z1: -720≤c.zone
 z2:c.zone≤840
 wk:c.week.length=7
 few:c.hol.length≤40
 inc: ∀(i:Nat) (x y:Int),c.hol[i]?=some x→c.hol[i+1]?=some y→x<y
def isSm (b:Nat):Prop:=97≤b∧b≤122
def isDg (b:Nat):Prop:=48≤b∧b≤57
structure NameOK (keys:List ByteArray) (s:ByteArray):Prop where
 n1:1≤s.size
 n2:s.size≤16
 fst:isSm (byteA s 0)
 all: ∀i,i<s.size→isSm (byteA s i)∨isDg (byteA s i)∨byteA s i=95
 nokey:s ∉ keys
structure CodeOK (s:ByteArray):Prop where
 n1:1≤s.size
 n2:s.size≤8
 all: ∀i,i<s.size→(65≤byteA s i∧byteA s i≤90)∨isDg (byteA s i)
structure OfOK (N:Net) (o:Of):Prop where
 o1:0≤o.op
 o2:o.op<N.ops.length
 c1:0≤o.cal
 c2:o.cal<N.cals.length
 few:o.codes.length≤20
 codes: ∀c∈o.codes,CodeOK c
 p1:2≤o.pock
 p2:o.pock≤64
 q1:1≤o.pass
 q2:o.pass≤4
 m1:1≤o.mins
 m2:o.mins≤240
structure LiOK (N:Net) (l:Li):Prop where
 f1:0≤l.frm
 f2:l.frm<N.offs.length
 t1:0≤l.to
 t2:l.to<N.offs.length
 ne:l.frm≠l.to
 a1:0≤l.at_
 a2:l.at_≤1439
 r1:1≤l.trav
 r2:l.trav≤5000
 d1:1≤l.load
 d2:l.load≤40
structure ClaOK (c:Cla):Prop where
 c1:0≤c.cut
 c2:c.cut≤1439
 d1:0≤c.del
 d2:c.del≤1439
structure KindOK {α:Type} (keys:List ByteArray) (lim:Nat) (names:List ByteArray) (l:List α) (good:α→Prop):Prop where
 few:l.length≤lim
 name: ∀s∈names,NameOK keys s
 nodup:names.Nodup
 good: ∀x∈l,good x
structure ConsOK (keys:List ByteArray) (N:Net):Prop where
 len:N.names.length=N.cals.length
 cals:KindOK keys 6 N.names N.cals CalOK
 ops:KindOK keys 6 N.ops N.ops (fun _=>True)
 offs:KindOK keys 12 (N.offs.map (·.name)) N.offs (OfOK N)
 lines:KindOK keys 40 (N.lines.map (·.name)) N.lines (LiOK N)
 classes:KindOK keys 4 (N.classes.map (·.name)) N.classes ClaOK
def lnOf (N:Net):List Ln:=N.lines.map fun l=>(l.frm.toNat,l.to.toNat,l.trav)
structure SoundOK (keys:List ByteArray) (N:Net):Prop where
 cons:ConsOK keys N
 all: ∀a b,a<N.offs.length→b<N.offs.length→ReachL (lnOf N) a b
theorem ConsOK.ln {keys:List ByteArray} {N:Net} (h:ConsOK keys N):LnOK N.offs.length (lnOf N)∧N.offs.length≤12∧(lnOf N).length≤40:=by
 refine ⟨fun l hl=> ?_,h.offs.few,by unfold lnOf; rw [List.length_map]; exact h.lines.few⟩
 obtain ⟨x,hx,rfl⟩:=List.mem_map.1 hl
 have:=h.lines.good x hx
 have h1:=this.f1
 have h2:=this.f2
 have h3:=this.t1
 have h4:=this.t2
 exact ⟨by show x.frm.toNat<_; omega,by show x.to.toNat<_; omega,this.r1,this.r2⟩
theorem LnOK.more {n m:Nat} {L:List Ln} (h:LnOK n L) (hm:n≤m):LnOK m L:=fun l hl=>by
 have:=h l hl
 exact ⟨by omega,by omega,this.2.2⟩
def keys11:List ByteArray:= ["calendar", "operator", "office", "line", "class", "zone", "week", "holiday", "pockets", "passes", "minutes", "codes", "at", "travel", "load", "cut", "deliver"].map String.toUTF8
end Go.Ord
namespace Go.PF
open Go.RowKit Go.Ord
def calT:Ty Cal where
 n:=3
 rep:=fun F w cs c=> ∃u v,cs= [.int .i64 c.zone,u,v]∧I64 c.zone∧SL boolT F w u c.week∧SL intT F w v c.hol
 len:=fun _ _ _ _ h=>by obtain ⟨u,v,h,_⟩:=h; rw [h]; rfl
 mono:=fun _ _ _ _ _ hk h=>by obtain ⟨u,v,h,h1,h2,h3⟩:=h; exact ⟨u,v,h,h1,h2.mono hk,h3.mono hk⟩
 wider:=fun _ _ _ _ _ hF h=>by obtain ⟨u,v,h,h1,h2,h3⟩:=h; exact ⟨u,v,h,h1,h2.wider hF,h3.wider hF⟩
theorem calT_now:Ty.Now calT:=⟨by decide,fun F w cs e ⟨u,v,h,h1,h2,h3⟩=>⟨u,v,h,h1,h2.now boolT_now,h3.now intT_now⟩⟩
def ofT:Ty Of where
 n:=7
 rep:=fun F w cs o=> ∃v,cs= [.string o.name,.int .i64 o.op,.int .i64 o.cal,.int .i64 o.pock,.int .i64 o.pass,.int .i64 o.mins,v]∧o.name.size≤9223372036854775807∧I64 o.op∧I64 o.cal∧I64 o.pock∧I64 o.pass∧I64 o.mins∧SL strT F w v o.codes
 len:=fun _ _ _ _ h=>by obtain ⟨v,h,_⟩:=h; rw [h]; rfl
 mono:=fun _ _ _ _ _ hk h=>by obtain ⟨v,h,h1,h2,h3,h4,h5,h6,hs⟩:=h; exact ⟨v,h,h1,h2,h3,h4,h5,h6,hs.mono hk⟩
 wider:=fun _ _ _ _ _ hF h=>by obtain ⟨v,h,h1,h2,h3,h4,h5,h6,hs⟩:=h; exact ⟨v,h,h1,h2,h3,h4,h5,h6,hs.wider hF⟩
theorem ofT_now:Ty.Now ofT:=⟨by decide,fun F w cs e ⟨v,h,h1,h2,h3,h4,h5,h6,hs⟩=>⟨v,h,h1,h2,h3,h4,h5,h6,hs.now strT_now⟩⟩
def liV (l:Li):List Value:= [.string l.name,.int .i64 l.frm,.int .i64 l.to,.int .i64 l.at_,.int .i64 l.trav,.int .i64 l.load]
def liT:Ty Li where
 n:=6
 rep:=fun _ _ cs l=>cs=liV l∧l.name.size≤9223372036854775807∧I64 l.frm∧I64 l.to∧I64 l.at_∧I64 l.trav∧I64 l.load
 len:=fun _ _ _ _ h=>by rw [h.1]; rfl
 mono:=fun _ _ _ _ _ _ h=>h
 wider:=fun _ _ _ _ _ _ h=>h
theorem liT_now:Ty.Now liT:=⟨by decide,fun _ _ _ _ h=>h⟩
def claV (l:Cla):List Value:= [.string l.name,.int .i64 l.cut,.int .i64 l.del]
def claT:Ty Cla where
 n:=3
 rep:=fun _ _ cs l=>cs=claV l∧l.name.size≤9223372036854775807∧I64 l.cut∧I64 l.del
 len:=fun _ _ _ _ h=>by rw [h.1]; rfl
 mono:=fun _ _ _ _ _ _ h=>h
 wider:=fun _ _ _ _ _ _ h=>h
theorem claT_now:Ty.Now claT:=⟨by decide,fun _ _ _ _ h=>h⟩
structure NV where
 c:Value
 n:Value
 o:Value
 f:Value
 l:Value
 k:Value
def NV.cells (v:NV):List Value:= [v.c,v.n,v.o,v.f,v.l,v.k]
structure NetIn (F:Nat→Prop) (w:World) (v:NV) (N:Net):Prop where
 c:SL calT F w v.c N.cals
 n:SL strT F w v.n N.names
 o:SL strT F w v.o N.ops
 f:SL ofT F w v.f N.offs
 l:SL liT F w v.l N.lines
 k:SL claT F w v.k N.classes
theorem NetIn.below {F:Nat→Prop} {w w':World} {v:NV} {N:Net} (h:NetIn F w v N) (hb:Below w.heap.size w w'):NetIn F w' v N:=⟨h.c.below hb,h.n.below hb,h.o.below hb,h.f.below hb,h.l.below hb,h.k.below hb⟩
abbrev NetAt (w:World) (v:NV) (N:Net):Prop:=NetIn (fun k=>k<w.heap.size) w v N
theorem NetIn.now {F:Nat→Prop} {w:World} {v:NV} {N:Net} (h:NetIn F w v N):NetAt w v N:=⟨h.c.now calT_now,h.n.now strT_now,h.o.now strT_now,h.f.now ofT_now,h.l.now liT_now,h.k.now claT_now⟩
theorem NetIn.wider {F G:Nat→Prop} {w:World} {v:NV} {N:Net} (h:NetIn F w v N) (hF: ∀k,F k→G k):NetIn G w v N:=⟨h.c.wider hF,h.n.wider hF,h.o.wider hF,h.f.wider hF,h.l.wider hF,h.k.wider hF⟩
theorem net_step {w w':World} {v:NV} {N:Net} (h:NetAt w v N) (hb:Below w.heap.size w w'):NetAt w' v N:=⟨h.c.step calT_now hb,h.n.step strT_now hb,h.o.step strT_now hb,h.f.step ofT_now hb,h.l.step liT_now hb,h.k.step claT_now hb⟩
end Go.PF
namespace Go.Ord
variable {d:Dist}
def vis (o f t:Int):Ev:=⟨o,f,t,[]⟩
def ToO (d:Dist) (x:ET) (o τ:Int):Prop:=at2 d x.1.office.toNat o.toNat≠ -1∧at2 d x.1.office.toNat o.toNat≤τ-x.2
def FrO (d:Dist) (o τ:Int) (x:ET):Prop:=at2 d o.toNat x.1.office.toNat≠ -1∧at2 d o.toNat x.1.office.toNat≤x.2-τ
def PV (d:Dist) (rest:List Ev) (o τ:Int):Prop:=0≤τ∧τ≤1000000∧ ∃l:List ET,l.map (·.1)=rest∧HoldsN d l∧ ∀x∈l,ToO d x o τ∨FrO d o τ x
theorem poss_vis {rest:List Ev} {o f t:Int}:Poss d (rest++ [vis o f t])↔ ∃τ,f≤τ∧τ≤t∧PV d rest o τ:=by
 constructor
 ·rintro ⟨l,hl,h⟩
  obtain ⟨l1,l2,rfl,h1,h2⟩:=List.map_eq_append_iff.1 hl
  obtain ⟨y,rfl,hy⟩: ∃y,l2= [y]∧y.1=vis o f t:=by
   cases l2 with
   | nil=>simp at h2
   | cons y l2 =>
    simp at h2
    exact ⟨y,by rw [h2.2],h2.1⟩
  have he:=h.each y (by simp)
  rw [hy] at he
  obtain ⟨p1,_,p3⟩:=List.pairwise_append.1 h.two
  refine ⟨y.2,he.2.2.1,he.2.2.2,he.1,he.2.1,l1,h1,⟨fun x hx=>h.each x (by simp [hx]),p1⟩,fun x hx=> ?_⟩
  have:=p3 x hx y (by simp)
  unfold Aft at this
  rw [hy] at this
  exact this
 ·rintro ⟨τ,h1,h2,h3,h4,l,rfl,hl,hx⟩
  refine ⟨l++ [(vis o f t,τ)],by simp,⟨fun x hm=> ?_,List.pairwise_append.2 ⟨hl.two,List.pairwise_singleton _ _,fun x hm y hy=> ?_⟩⟩⟩
  ·rcases List.mem_append.1 hm with hm|hm
   ·exact hl.each x hm
   ·rw [List.mem_singleton] at hm
    subst hm
    exact ⟨h3,h4,h1,h2⟩
  ·rw [List.mem_singleton] at hy
   subst hy
   exact hx x hm
theorem HoldsN.sub {l l':List ET} (h:HoldsN d l) (hs:l'.Sublist l):HoldsN d l':=⟨fun x hx=>h.each x (hs.subset hx),h.two.sublist hs⟩
theorem map_sub {α β:Type} {f:α→β}: ∀ {l:List α} {m:List β},m.Sublist (l.map f)→ ∃l':List α,l'.Sublist l∧l'.map f=m
 | [],m,h=>⟨[],List.Sublist.refl _,by simp at h; rw [h]; rfl⟩
 | x::l,m,h=>by
  rw [List.map_cons] at h
  cases h with
  | cons _ h =>
   obtain ⟨l',h1,h2⟩:=map_sub h
   exact ⟨l',h1.cons _,h2⟩
  | cons_cons _ h =>
   obtain ⟨l',h1,h2⟩:=map_sub h
   exact ⟨x::l',h1.cons_cons _,by simp [h2]⟩
theorem PV.sub {rest rest':List Ev} {o τ:Int} (h:PV d rest o τ) (hs:rest'.Sublist rest):PV d rest' o τ:=by
 obtain ⟨h1,h2,l,rfl,hl,hx⟩:=h
 obtain ⟨l',k1,k2⟩:=map_sub hs
 exact ⟨h1,h2,l',k2,hl.sub k1,fun x hm=>hx x (k1.subset hm)⟩
theorem PossJ.sub {rest rest':List Ev} {a b:Ev} {g:Int} (h:PossJ d rest a b g) (hs:rest'.Sublist rest):PossJ d rest' a b g:=by
 obtain ⟨h0,l,t,rfl,h1,h2,h3,h4⟩:=h
 obtain ⟨l',k1,k2⟩:=map_sub hs
 exact ⟨h0,l',t,k2,h1.sub k1,h2,h3,fun x hm=>h4 x (k1.subset hm)⟩
theorem pair_all {α:Type} {R:α→α→Prop}: ∀ {l:List α},(∀x∈l,R x x)→(∀x y,R x y→R y x)→l.Pairwise R→ ∀x∈l,∀y∈l,R x y
 | [],_,_,_,x,hx,_,_=>by cases hx
 | z::l,hr,hs,hp,x,hx,y,hy=>by
  obtain ⟨h1,h2⟩:=List.pairwise_cons.1 hp
  rcases List.mem_cons.1 hx with ex|hx'
  ·rcases List.mem_cons.1 hy with ey|hy'
   ·rw [ex,ey]; exact hr z (by simp)
   ·rw [ex]; exact h1 y hy'
  ·rcases List.mem_cons.1 hy with ey|hy'
   ·rw [ey]; exact hs _ _ (h1 x hx')
   ·exact pair_all (fun z hz=>hr z (by simp [hz])) hs h2 x hx' y hy'
theorem pv_own (hd:WfD d) {l:List ET} (he: ∀x∈l,EOK d x.1) (h:HoldsN d l) {x:ET} (hx:x∈l):PV d (l.map (·.1)) x.1.office x.2:=by
 have hex:=h.each x hx
 refine ⟨hex.1,hex.2.1,l,rfl,h,fun y hy=> ?_⟩
 have:=pair_all (R:=fun a b=>Aft d a b∨Aft d b a) (fun z hz=> .inl ?_) (fun _ _ h=>h.symm) h.two y hy x hx
 ·exact this
 ·have hz:=he z hz
  have h1:=hz.o1
  have h2:=hz.o2
  have:=hd.diag z.1.office.toNat (by omega)
  exact ⟨by rw [this]; decide,by rw [this]; omega⟩
end Go.Ord
namespace Go.Proofs.YtobaafdejnimkaaGreatDoor
open Go.PF Go.RowKit Go.Ord
variable {i:Nat} {t:Int}
abbrev Spt:=Int×Int
def restsS (l:List Ev) (ws:List (List Int)):List (List Ev):=ws.map (restS l)
def lvE (l:Li) (t:Int):Ev:=⟨l.frm,t-l.trav+1,t-1,[]⟩
def arE (l:Li) (t:Int):Ev:=⟨l.to,t+1,t+l.trav-1,[]⟩
inductive Knd
 | at (o f t:Int)
 | on (l:Li) (t:Int)
def Knd.more:Knd→List Ev
 | .at o f t=> [vis o f t]
 | .on l t=> [lvE l t,arE l t]
noncomputable def Knd.b (d:Dist) (k:Knd) (r:List Ev):Bool:=match k with
 | .at o f t=>dec (Fitted d (r++ [vis o f t]))
 | .on l t=>dec (FittedJ d (r++ [lvE l t,arE l t]) r (lvE l t) (arE l t) l.trav)
noncomputable def canB (d:Dist) (rs:List (List Ev)) (k:Knd):Bool:=rs.any (k.b d)
def offPl (n:Nat) (t:Int):List (Spt×Knd):=(List.range n).map fun i:Nat=>(((i:Int),-1),.at (i:Int) t t)
def linPl (ls:List Li) (t:Int):List (Spt×Knd):=ls.mapIdx fun i l=>((-1,(i:Int)),.on l t)
def plsS (N:Net) (t:Int):List (Spt×Knd):=offPl N.offs.length t++linPl N.lines t
noncomputable def spotsS (N:Net) (d:Dist) (rs:List (List Ev)) (t:Int):List Spt:=((plsS N t).filter fun p=>canB d rs p.2).map (·.1)
structure PossOK (N:Net) (d:Dist) (l:List Ev) (nw:Nat) (t:Int):Prop where
 sound:SoundOK keys11 N
 fit:FitW d l nw
 same:d.length=N.offs.length
 t0:0≤t
 t1:t≤1000000
noncomputable def possS (N:Net) (d:Dist) (l:List Ev) (ws:List (List Int)) (t:Int):List Spt:=if dec (PossOK N d l ws.length t)=true then spotsS N d (restsS l ws) t else []
noncomputable def reachS (d:Dist) (l:List Ev) (ws:List (List Int)) (o f t:Int):Bool:=dec (FitW d l ws.length)&&decide (0≤o∧o<(d.length:Int))&&canB d (restsS l ws) (.at o f t)
def isSeen (o by_:Int) (e:Ev):Bool:=decide (e.office=o∧e.high≤by_)
def seenS (l:List Ev) (ws:List (List Int)) (o by_:Int):Bool:=decide (0<ws.length)&&ws.all fun S=>(restS l S).any (isSeen o by_)
theorem offPl_len (n:Nat) (t:Int):(offPl n t).length=n:=by simp [offPl]
theorem linPl_len (ls:List Li) (t:Int):(linPl ls t).length=ls.length:=by simp [linPl]
theorem offPl_at {n:Nat} (h:i<n):(offPl n t)[i]?=some (((i:Int),-1),.at i t t):=by simp [offPl,h]
theorem linPl_at {ls:List Li} {l:Li} (h:ls[i]?=some l):(linPl ls t)[i]?=some ((-1,(i:Int)),.on l t):=by simp [linPl,List.getElem?_mapIdx,h]
theorem plsS_len (N:Net) (t:Int):(plsS N t).length=N.offs.length+N.lines.length:=by simp [plsS,offPl_len,linPl_len]
theorem plsS_off {N:Net} (h:i<N.offs.length):(plsS N t)[i]?=some (((i:Int),-1),.at i t t):=by
 unfold plsS
 rw [List.getElem?_append_left (by rw [offPl_len]; exact h),offPl_at h]
theorem plsS_lin {N:Net} {l:Li} (h:N.lines[i]?=some l):(plsS N t)[N.offs.length+i]?=some ((-1,(i:Int)),.on l t):=by
 unfold plsS
 rw [List.getElem?_append_right (by rw [offPl_len]; omega),offPl_len,show N.offs.length+i-N.offs.length=i by omega,linPl_at h]
def sptT:Ty Spt where
 n:=2
 rep:=fun _ _ cs s=>cs= [.int .i64 s.1,.int .i64 s.2]∧I64 s.1∧I64 s.2
 len:=fun _ _ _ _ h=>by rw [h.1]; rfl
 mono:=fun _ _ _ _ _ _ h=>h
 wider:=fun _ _ _ _ _ _ h=>h
def spV (s:Spt):List Value:= [.int .i64 s.1,.int .i64 s.2]
abbrev SPs (w:World) (v:Value) (l:List Spt):Prop:=SL sptT (fun k=>k<w.heap.size) w v l
theorem SPs.get {F:Nat→Prop} {w:World} {ad:Addr} {n cap:Nat} {l:List Spt} (h:SL sptT F w (.slice (some ad) n cap) l) {s:Spt} (hx:l[i]?=some s) :
  (∀j u,(spV s)[j]?=some u→w.cell? ((ad.add ((i:Int).toNat*2)).add j)=some u)∧I64 s.1∧I64 s.2:=by
 obtain ⟨ad',cs,h1,_,⟨rfl,g1,g2⟩,hc⟩:=h.at hx
 cases h1
 exact ⟨hc,g1,g2⟩
end Go.Proofs.YtobaafdejnimkaaGreatDoor
namespace Go.Proofs
open Go.Shelf
def Tryz.lays156_ren:Go.Shelf.Ren:=⟨fun|156=>258|165=>270|166=>271|169=>272|240=>282|241=>283|276=>289|277=>290|n=>n,fun|31=>23|9=>9|3=>3|4=>4|0=>0|20=>20|72=>301|76=>305|70=>299|37=>281|75=>304|127=>315|164=>320|5=>5|80=>307|n=>n,fun|n=>n⟩
theorem Tryz.lays156:Go.Proofs.Lays.n156 Tryz.prog Tryz.lays156_ren:= {
 mixed:=by kernel_rfl
 f156:=Tryz.func258.trans (congrArg some (by kernel_rfl))
 f165:=Tryz.func270.trans (congrArg some (by kernel_rfl))
 f166:=Tryz.func271.trans (congrArg some (by kernel_rfl))
 f169:=Tryz.func272.trans (congrArg some (by kernel_rfl))
 f240:=Tryz.func282.trans (congrArg some (by kernel_rfl))
 f241:=Tryz.func283.trans (congrArg some (by kernel_rfl))
 f276:=Tryz.func289.trans (congrArg some (by kernel_rfl))
 f277:=Tryz.func290.trans (congrArg some (by kernel_rfl))
 t0:=Tryz.underlying0
 a0:=Tryz.isAgg0
 z0:=Tryz.sizeOf0
 v0:=Tryz.zeroValue0
 t3:=Tryz.underlying3
 a3:=Tryz.isAgg3
 z3:=Tryz.sizeOf3
 v3:=Tryz.zeroValue3
 t4:=Tryz.underlying4
 a4:=Tryz.isAgg4
 z4:=Tryz.sizeOf4
 v4:=Tryz.zeroValue4
 t9:=Tryz.underlying9
 a9:=Tryz.isAgg9
 z9:=Tryz.sizeOf9
 v9:=Tryz.zeroValue9
 t20:=Tryz.underlying20
 a20:=Tryz.isAgg20
 z20:=Tryz.sizeOf20
 v20:=Tryz.zeroValue20
 t31:=Tryz.underlying23
 a31:=Tryz.isAgg23
 z31:=Tryz.sizeOf23
 v31:=Tryz.zeroValue23
 t37:=Tryz.underlying281
 a37:=Tryz.isAgg281
 z37:=Tryz.sizeOf281
 v37:=Tryz.zeroValue281
 t70:=Tryz.underlying299
 a70:=Tryz.isAgg299
 z70:=Tryz.sizeOf299
 v70:=Tryz.zeroValue299
 t72:=Tryz.underlying301
 a72:=Tryz.isAgg301
 z72:=Tryz.sizeOf301
 v72:=Tryz.zeroValue301
 t75:=Tryz.underlying304
 a75:=Tryz.isAgg304
 z75:=Tryz.sizeOf304
 v75:=Tryz.zeroValue304
 t76:=Tryz.underlying305
 a76:=Tryz.isAgg305
 z76:=Tryz.sizeOf305
 v76:=Tryz.zeroValue305
 t127:=Tryz.underlying315
 a127:=Tryz.isAgg315
 z127:=Tryz.sizeOf315
 v127:=Tryz.zeroValue315
 t164:=Tryz.underlying320
 a164:=Tryz.isAgg320
 z164:=Tryz.sizeOf320
 v164:=Tryz.zeroValue320}
theorem Tryz.Builder_Extra_156:Builder.Extra Tryz.prog Tryz.lays156_ren:= {
 sizeBuilder:=by kernel_rfl
 liesBuilder:=by kernel_rfl
 t5:=Tryz.underlying5
 a5:=Tryz.isAgg5
 z5:=Tryz.sizeOf5
 v5:=Tryz.zeroValue5
 infoByte:=by kernel_rfl
 cellsByte:=by kernel_rfl
 sizeByte:=by kernel_rfl
 neB5:=by decide}
open Go.RowKit in
open Go.RowKit in
theorem Tryz.strings_Join (bk o c:Nat) (xs:List ByteArray) (sep:ByteArray) (w:World) (hcells: ∀(j:Nat) x,xs[j]?=some x→w.cell? ⟨bk,o+j,none⟩=some (.string x)) (hbk:bk<w.heap.size) (hN:xs.length≤140737488355328) (hcap:xs.length≤c) (hlen:(Lib.join (xs.map (·.data.toList)) sep.data.toList).length≤140737488355328) :
  Calls Tryz.prog 258 #[.slice (some ⟨bk,o,none⟩) xs.length c,.string sep] w fun e w'=>e= .returned (.string ⟨(Lib.join (xs.map (·.data.toList)) sep.data.toList).toArray⟩)∧Below w.heap.size w w':=Any.strings_Join Tryz.lays156 Tryz.Builder_Extra_156 bk o c xs sep w hcells hbk hN hcap hlen
def Tryz.lays189_ren:Go.Shelf.Ren:=⟨fun|189=>48|125=>101|257=>100|128=>177|129=>178|294=>168|295=>169|296=>170|297=>171|298=>172|299=>173|216=>174|300=>175|301=>176|328=>232|329=>233|330=>234|331=>235|332=>236|215=>224|343=>253|n=>n,fun|28=>32|3=>3|46=>172|0=>0|51=>154|53=>241|4=>4|183=>233|182=>232|131=>237|5=>5|9=>9|218=>275|222=>279|228=>291|229=>219|n=>n,fun|n=>n⟩
theorem Tryz.lays189:Go.Proofs.Lays.n189 Tryz.prog Tryz.lays189_ren:= {
 mixed:=by kernel_rfl
 f125:=Tryz.func101.trans (congrArg some (by kernel_rfl))
 f128:=Tryz.func177.trans (congrArg some (by kernel_rfl))
 f129:=Tryz.func178.trans (congrArg some (by kernel_rfl))
 f189:=Tryz.func48.trans (congrArg some (by kernel_rfl))
 f215:=Tryz.func224.trans (congrArg some (by kernel_rfl))
 f216:=Tryz.func174.trans (congrArg some (by kernel_rfl))
 f257:=Tryz.func100.trans (congrArg some (by kernel_rfl))
 f294:=Tryz.func168.trans (congrArg some (by kernel_rfl))
 f295:=Tryz.func169.trans (congrArg some (by kernel_rfl))
 f296:=Tryz.func170.trans (congrArg some (by kernel_rfl))
 f297:=Tryz.func171.trans (congrArg some (by kernel_rfl))
 f298:=Tryz.func172.trans (congrArg some (by kernel_rfl))
 f299:=Tryz.func173.trans (congrArg some (by kernel_rfl))
 f300:=Tryz.func175.trans (congrArg some (by kernel_rfl))
 f301:=Tryz.func176.trans (congrArg some (by kernel_rfl))
 f328:=Tryz.func232.trans (congrArg some (by kernel_rfl))
 f329:=Tryz.func233.trans (congrArg some (by kernel_rfl))
 f330:=Tryz.func234.trans (congrArg some (by kernel_rfl))
 f331:=Tryz.func235.trans (congrArg some (by kernel_rfl))
 f332:=Tryz.func236.trans (congrArg some (by kernel_rfl))
 f343:=Tryz.func253.trans (congrArg some (by kernel_rfl))
 t0:=Tryz.underlying0
 a0:=Tryz.isAgg0
 z0:=Tryz.sizeOf0
 v0:=Tryz.zeroValue0
 t3:=Tryz.underlying3
 a3:=Tryz.isAgg3
 z3:=Tryz.sizeOf3
 v3:=Tryz.zeroValue3
 t4:=Tryz.underlying4
 a4:=Tryz.isAgg4
 z4:=Tryz.sizeOf4
 v4:=Tryz.zeroValue4
 t5:=Tryz.underlying5
 a5:=Tryz.isAgg5
 z5:=Tryz.sizeOf5
 v5:=Tryz.zeroValue5
 t9:=Tryz.underlying9
 a9:=Tryz.isAgg9
 z9:=Tryz.sizeOf9
 v9:=Tryz.zeroValue9
 t28:=Tryz.underlying32
 a28:=Tryz.isAgg32
 z28:=Tryz.sizeOf32
 v28:=Tryz.zeroValue32
 t46:=Tryz.underlying172
 a46:=Tryz.isAgg172
 z46:=Tryz.sizeOf172
 v46:=Tryz.zeroValue172
 t51:=Tryz.underlying154
 a51:=Tryz.isAgg154
 z51:=Tryz.sizeOf154
 v51:=Tryz.zeroValue154
 t53:=Tryz.underlying241
 a53:=Tryz.isAgg241
 z53:=Tryz.sizeOf241
 v53:=Tryz.zeroValue241
 t131:=Tryz.underlying237
 a131:=Tryz.isAgg237
 z131:=Tryz.sizeOf237
 v131:=Tryz.zeroValue237
 t182:=Tryz.underlying232
 a182:=Tryz.isAgg232
 z182:=Tryz.sizeOf232
 v182:=Tryz.zeroValue232
 t183:=Tryz.underlying233
 a183:=Tryz.isAgg233
 z183:=Tryz.sizeOf233
 v183:=Tryz.zeroValue233
 t218:=Tryz.underlying275
 a218:=Tryz.isAgg275
 z218:=Tryz.sizeOf275
 v218:=Tryz.zeroValue275
 t222:=Tryz.underlying279
 a222:=Tryz.isAgg279
 z222:=Tryz.sizeOf279
 v222:=Tryz.zeroValue279
 t228:=Tryz.underlying291
 a228:=Tryz.isAgg291
 z228:=Tryz.sizeOf291
 v228:=Tryz.zeroValue291
 t229:=Tryz.underlying219
 a229:=Tryz.isAgg219
 z229:=Tryz.sizeOf219
 v229:=Tryz.zeroValue219}
open Go.Sort Go.RowKit in
theorem Tryz.slices_Sort_int (blk off cap:Nat) (zs:List Int) (w:World) (hH:Holds (Value.int .i64) w blk off zs.toArray) (hblk:blk<w.heap.size) (hsz:zs.length<4611686018427387904) :
  Calls Tryz.prog 48 #[.slice (some ⟨blk,off,none⟩) zs.length cap] w fun e w' =>
   e= .returned (.tuple #[])∧ ∃n os,w'=grow (putRow (Value.int .i64) (Sort.ahead w n) blk off (zs.mergeSort fun x y=>decide (x≤y)).toArray) os:=Any.slices_Sort_int Tryz.lays189 blk off cap zs w hH hblk hsz
def Tryz.laysGw17_ren:Go.Shelf.Ren:=⟨fun|17=>266|15=>276|20=>284|n=>n,fun|9=>9|23=>295|4=>4|3=>3|0=>0|21=>21|n=>n,fun|n=>n⟩
theorem Tryz.laysGw17:Go.Proofs.LaysGw.n17 Tryz.prog Tryz.laysGw17_ren:= {
 mixed:=by kernel_rfl
 f15:=Tryz.func276.trans (congrArg some (by kernel_rfl))
 f17:=Tryz.func266.trans (congrArg some (by kernel_rfl))
 f20:=Tryz.func284.trans (congrArg some (by kernel_rfl))
 t0:=Tryz.underlying0
 a0:=Tryz.isAgg0
 z0:=Tryz.sizeOf0
 v0:=Tryz.zeroValue0
 i0:=by kernel_rfl
 t3:=Tryz.underlying3
 a3:=Tryz.isAgg3
 z3:=Tryz.sizeOf3
 v3:=Tryz.zeroValue3
 i3:=by kernel_rfl
 t4:=Tryz.underlying4
 a4:=Tryz.isAgg4
 z4:=Tryz.sizeOf4
 v4:=Tryz.zeroValue4
 i4:=by kernel_rfl
 t9:=Tryz.underlying9
 a9:=Tryz.isAgg9
 z9:=Tryz.sizeOf9
 v9:=Tryz.zeroValue9
 i9:=by kernel_rfl
 t21:=Tryz.underlying21
 a21:=Tryz.isAgg21
 z21:=Tryz.sizeOf21
 v21:=Tryz.zeroValue21
 i21:=by kernel_rfl
 t23:=Tryz.underlying295
 a23:=Tryz.isAgg295
 z23:=Tryz.sizeOf295
 v23:=Tryz.zeroValue295
 i23:=by kernel_rfl}
open Go.RowKit Go.Lib in
theorem Tryz.strings_ContainsFunc_grows (g:Nat) (lb:Array Value) (eg: ∀args w,(callFunc g args).run Tryz.prog w= .ok (.enter g args) w) (p:Nat→Bool) (s:ByteArray) (w:World) (hp:PredGrows Tryz.prog g lb p w) :
  Calls Tryz.prog 266 #[.string s,.func (.func g) #[] lb] w fun e w'=>e= .returned (.bool (decide (0≤Lib.idxFunc p true s)))∧Below w.heap.size w w':=Any.strings_ContainsFunc_grows Tryz.laysGw17 g lb eg p s w hp
open Go.RowKit Go.Sort in
theorem Tryz.slices_Sort_int_none (p:Option Addr) (cap:Nat) (w:World) :
  Calls Tryz.prog 48 #[.slice p 0 cap] w fun e w'=>e= .returned (.tuple #[])∧w'=w:=Any.slices_Sort_int_none Tryz.lays189 p cap w
end Go.Proofs
namespace Go.Proofs.YtobaafdejnimkaaGreatDoor
open Go.PF Go.RowKit Go.Ord
attribute [local irreducible] TW CW KW DW
variable {w:World} {gf:FuncId} {cap:List Value} {own:Nat→Prop} {Pos:List Int→Int→Prop} {Done:List Int→Prop}
theorem Below.putCtl {n D:Nat} {w0:World} {o:Obj} (h:Below n w0 w) (hD:n≤D):Below n w0 (w.putObj D o) :=
 ⟨h.os,h.tape,h.output,by simpa [World.putObj] using h.size,fun i hi=>(World.putObj_heap_other (by omega)).trans (h.block i hi)⟩
theorem sort_c {v:Value} {xs:List Int} (h:OwnS w 3 1 v xs.length (xs.map (Value.int .i64))) (hn:xs.length<4611686018427387904) :
  Gives Tryz.prog 48 #[v] w fun _ w'=>w.grownBy w' v.ownBlock∧OwnS w' 3 1 v xs.length ((xs.mergeSort fun x y=>decide (x≤y)).map (Value.int .i64)):=by
 rcases h.2 with ⟨rfl,h0⟩|⟨g,cap,cur,rfl,hg,hh,h1,h2,h3,h4⟩
 ·have hx:xs= []:=List.eq_nil_of_length_eq_zero h0
  subst hx
  refine (Tryz.slices_Sort_int_none none 0 w).mono ?_
  rintro e w' ⟨rfl,rfl⟩
  exact ⟨_,rfl,⟨rfl,rfl,rfl,Nat.le_refl _,fun _ _ _=>rfl⟩,by simpa using OwnS.nil w' _ 1⟩
 ·have hH:=holds_of_blockI (ss:=xs) hh (by rw [Nat.mul_one] at h4; exact h4)
  refine (Tryz.slices_Sort_int g 0 cap xs w hH (Array.getElem?_eq_some_iff.1 hh).1 hn).mono ?_
  rintro e w' ⟨rfl,n,os,rfl⟩
  exact ⟨_,rfl,grownBy_sortedI _,ownsRow_sortedI (by simp [List.length_mergeSort]) hg hh h1 h2 h3⟩
def keyPos (ks:List Int) (pre:List Int) (x:Int):Prop:=(pre++ [x]).Nodup∧ ∀y∈pre++ [x],y∈ks
def keyAll (ks:List Int) (xs:List Int):Prop:=xs.Nodup∧ ∀y,y∈xs↔y∈ks
theorem keys_iter {g bm:Nat} {m:List (Int×Value)} (hg:Blk w g 206 [.map (some bm)]) (hm:MapL intK w bm m) :
  IterOK Tryz.prog 219 [.pointer (some ⟨g,0,none⟩)] (fun x:Int=> [.int .i64 x]) (keyPos (m.map (·.1))) (keyAll (m.map (·.1))) (fun k=>k=g∨k=bm) w:=by
 intro yl J Jx W M hown hsz hyl hM hMlt hJ hJx hy h0
 have hgW:Blk W g 206 [.map (some bm)]:=(hown g (.inl rfl) hg.lt).trans hg
 have hmW:MapL intK W bm m:=hm.kept (hown bm (.inr rfl) hm.lt)
 have hkn:=hm.keys
 refine gv (f:=219) ?_
 refine rnT ?_
 refine TW.ld rfl (hgW.cell 0) ?_
 refine TW.rangeM intK rfl rfl Tryz.underlying206 rfl hmW ?_
 rintro it w1 hit hw1 hb1 hwk
 refine rnT ?_
 refine CW.loopS (fun x:List Int×(Nat→Prop)×Option (Int×Value)=> [(0,none,.func (.yield yl) #[] #[]),(5,none,.pointer (some ⟨it,0,none⟩))])
  (fun x W'=>J x.1 x.2.1 W'∧WalkM intK W' it bm m x.1 x.2.2∧W.heap.size<W'.heap.size∧(∀k,x.2.1 k→k<W'.heap.size)∧ ¬x.2.1 it∧ ¬x.2.1 bm∧x.1.Nodup∧ ∀y∈x.1,y∈m.map (·.1))
  (fun x=>m.length-x.1.length) ([],M,none) [0,5]
  ⟨hJ _ _ _ _ h0 (.of_below hb1),hwk,by show W.heap.size<w1.heap.size; omega,fun k hk=>by have:=hMlt k hk; show k<w1.heap.size; omega,fun h=>by have:=hMlt _ h; omega,(hM bm (.inr rfl)).1,List.nodup_nil,fun y hy=>by cases hy⟩ rfl ?_
 rintro ⟨pre,M1,lst⟩ W1 ⟨hj,hwk1,hsz1,hM1,hMit,hMbm,hnd,hsub⟩
 dsimp only at hj hwk1 hM1 hMit hMbm hnd hsub hsz1
 refine rnT ?_
 refine TW.nextM intK rfl rfl rfl hwk1 (fun hall=> ?_) (fun k v w2 hkv hkn' hs2 hbut2 hext2 hwk2=> ?_)
 ·skip
  refine rnT ?_
  refine CW.cond rfl (fun h1=> ?_) (fun h2=> ?_)
  ·exact absurd h1 (by simp)
  ·refine rnT ?_
   refine end0 Tryz.results219 (.inl ⟨pre,M1,⟨hnd,fun y=>⟨fun h=>hsub y h,fun h=> ?_⟩⟩,hj⟩)
   rw [List.mem_map] at h
   obtain ⟨p,hp,rfl⟩:=h
   exact hall p hp
 ·skip
  refine rnT ?_
  refine CW.cond rfl (fun h1=> ?_) (fun h2=> ?_)
  ·refine rnT ?_
   refine TW.entryM intK rfl rfl rfl hwk2 ?_
   refine rnT ?_
   have hpos:keyPos (m.map (·.1)) pre k:=by
    refine ⟨List.nodup_append.2 ⟨hnd,by simp,fun a ha b hb e=> ?_⟩,fun y hy=> ?_⟩
    ·rw [List.mem_singleton] at hb
     subst hb
     subst e
     exact hkn' ha
    ·rcases List.mem_append.1 hy with h|h
     ·exact hsub y h
     ·rw [List.mem_singleton] at h
      subst h
      exact List.mem_map.2 ⟨(y,v),hkv,rfl⟩
   have hj2:J pre M1 w2:=hJ _ _ _ _ hj (hext2.less (by omega))
   refine TW.yield rfl rfl rfl (Args.cons rfl ct Args.nil) (hy pre k M1 w2 hj2 hpos (fun q hq=>by have:=hM1 q hq; omega) (by omega)) ?_
   rintro yb W3 hR
   refine rnT ?_
   refine CW.cond rfl (fun hno=> ?_) (fun hgo=> ?_)
   ·refine rnT ?_
    refine ret0 Tryz.results219 (.inr ?_)
    obtain ⟨M',hx⟩:=hR.no (by simpa using hno)
    exact ⟨_,M',hx⟩
   ·refine rnT ?_
    obtain ⟨M',hj3,hm3⟩:=hR.yes (by simpa using hgo)
    have hitlt:it<w2.heap.size:=by obtain ⟨o,ho,_⟩:=hwk2.iter; exact (Array.getElem?_eq_some_iff.1 ho).1
    have hbmlt:bm<w2.heap.size:=by have:=hmW.lt; omega
    refine KW.round (pre++ [k],M',some (k,v)) [0,5] rfl ⟨hj3,hwk2.kept (hR.kept it hitlt hMit (by omega)) (hR.kept bm hbmlt hMbm (hM bm (.inr rfl)).2),by have:=hR.size; show W.heap.size<W3.heap.size; omega,fun q hq=>(hm3 q hq).2,fun h=> ?_,fun h=> ?_,hpos.1,hpos.2⟩ ?_
    ·rcases (hm3 _ h).1 with h|h
     ·exact hMit h
     ·omega
    ·rcases (hm3 _ h).1 with h|h
     ·exact hMbm h
     ·omega
    ·have hle:=nodup_len (l:=pre++ [k]) (k:=m.map (·.1)) hpos.1 hpos.2
     show m.length-(pre++ [k]).length<m.length-pre.length
     simp at hle ⊢
     omega
  ·exact absurd h2 (by simp)
theorem keys_c {bm:Nat}:Gives Tryz.prog 149 #[.map (some bm)] w fun u w'=>Below w.heap.size w w'∧ ∃g,u= .func (.func 219) #[] [.pointer (some ⟨g,0,none⟩)].toArray∧Blk w' g 206 [.map (some bm)]:=by
 refine gv (f:=149) ?_
 refine rnT ?_
 refine TW.box rfl rfl rfl rfl ?_
 rintro g w1 f1
 refine rnT ?_
 refine TW.pk [0,1,2] rfl ?_
 refine TW.makeFunc rfl rfl (Args.cons rfl ct Args.nil) ?_
 refine rnT ?_
 refine rt1 rfl ⟨f1.below,g,rfl,f1.blk⟩
theorem IterOK.later {α:Type} {enc:α→List Value} {Pos:List α→α→Prop} {Done:List α→Prop} {w':World} (h:IterOK Tryz.prog gf cap enc Pos Done own w) (hb:Below w.heap.size w w'):IterOK Tryz.prog gf cap enc Pos Done own w':=by
 intro l J Jx W M h1 h2
 exact h l J Jx W M (fun k hk hlt=>(h1 k hk (Nat.lt_of_lt_of_le hlt hb.size)).trans (hb.block k hlt)) (Nat.le_trans hb.size h2)
theorem appendSeq_c (hit:IterOK Tryz.prog gf cap (fun x:Int=> [.int .i64 x]) Pos Done own w) (hen:enters Tryz.prog gf=true) (hown: ∀k,own k→k<w.heap.size) (hbd: ∀pre x,Pos pre x→pre.length≤1000000000) :
  Gives Tryz.prog 243 #[.slice none 0 0,.func (.func gf) #[] cap.toArray] w fun v w'=>Below w.heap.size w w'∧ ∃xs,Done xs∧OwnS w' 3 1 v xs.length (xs.map (Value.int .i64))∧ ∀g,v.ownBlock=some g→w.heap.size≤g:=by
 refine gvM (f:=243) ?_
 refine rnT ?_
 refine TW.box rfl rfl rfl rfl ?_
 rintro g2 w1 f1
 refine rnT ?_
 have hg2:=f1.at_
 have hs1:=f1.size
 refine CW.range rfl hen (IterOK.later hit f1.below) rfl (fun _=>rfl)
  (fun pre M W=>Below w.heap.size w W∧ ∃vf,Blk W g2 32 [vf]∧OwnS W 3 1 vf pre.length (pre.map (Value.int .i64))∧(∀q,vf.ownBlock=some q→w1.heap.size≤q)∧M=fun k=>k=g2∨vf.ownBlock=some k)
  (fun c pre M W=>False) (fun k=>k=g2)
  (fun k hk=>by subst hk; exact ⟨by omega,fun h=>by have:=hown _ h; omega⟩) (fun k hk=>by have:=hown k hk; omega)
  (fun pre M W1 W2 ⟨a1,vf,a2,a3,a4,a5⟩ hx=>⟨(hx.less (by omega)).below a1 (Nat.le_refl _),vf,a2.ext hx,a3.ext hx,a4,a5⟩)
  (fun c pre M W1 W2 h hx=>h)
  ⟨f1.below,.slice none 0 0,f1.blk,OwnS.nil _ _ _,fun q hq=>by simp [Value.ownBlock] at hq,by funext k; simp [Value.ownBlock]⟩ ?_ ?_ ?_
 ·rintro D L pre p M W hD hL ⟨a1,vf,a2,a3,a4,rfl⟩ hpos hMlt hML hMD hrec
  have hpl:=hbd pre p hpos
  refine rnT ?_
  refine KW.begin hrec fun W2 hx hsz hk hrec2=> ?_
  have a2':Blk W2 g2 32 [vf]:=a2.ext hx
  have a3':=a3.ext hx
  have a1':Below w.heap.size w W2:=(hx.less (by omega)).below a1 (Nat.le_refl _)
  refine rnT ?_
  refine TW.ld rfl (a2'.cell 0) ?_
  refine rnT ?_
  refine TW.buildSlice 3 _ rfl rfl rfl eo32 (Args.cons rfl ct Args.nil) rfl rfl rfl rfl rfl ?_
  rintro g3 w3 f3
  have o3:=a3'.below f3.below
  refine TW.append [.int .i64 p] rfl rfl go32 rfl o3 rfl rfl (fun j v hj=>⟨⟨g3,0,none⟩,rfl,f3.blk.fld hj⟩) (fun v hv=>by simp at hv; subst hv; rfl) (by omega) (by omega) ?_
  rintro vf' w4 o4 hg4 hn4
  have s3:=f3.below.size
  have hL2:L<W2.heap.size:=hrec2.lt
  have hvlt: ∀q,vf.ownBlock=some q→q<W2.heap.size:=fun q hq=>a3'.lt hq
  have hLv:vf.ownBlock≠some L:=fun e=>hML (.inr e)
  have hDv:vf.ownBlock≠some D:=fun e=>hMD (.inr e)
  have hLg:L≠g2:=fun e=>hML (.inl e)
  have hDg:D≠g2:=fun e=>hMD (.inl e)
  have b4:Blk w4 g2 32 [vf]:=Blk.keptO (a2'.next f3.below) hg4 (fun e=>by have:=a4 _ e; omega)
  obtain ⟨A4,c4,hv4,_⟩:=o4.form
  have h14:vf'.oneCell'=true:=by rw [hv4]; rfl
  refine TW.store1 rfl sz32 rfl rfl (b4.cell 0) (b4.frozen 0) h14 ?_
  refine rnT ?_
  have rec4:w4.heap[L]?=W2.heap[L]?:=(hg4.block L (by omega) (fun e=>hLv e.symm)).trans (f3.below.block L hL2)
  have hw4:Below w.heap.size w w4:=(a1'.step f3.below).grown hg4 (a1'.step f3.below).size (fun q hq=>by have:=a4 q hq; omega)
  have hsz4:W2.heap.size≤w4.heap.size:=Nat.le_trans s3 hg4.size
  have hnew: ∀q,vf'.ownBlock=some q→vf.ownBlock=some q∨q=w3.heap.size:=fun q hq=>by
   rcases hn4 with h|h
   ·exact .inl (by rw [←h]; exact hq)
   ·rw [h] at hq; cases hq; exact .inr rfl
  have hw1:w1.heap.size≤W2.heap.size:=by omega
  have o5:OwnS (w4.setCell ⟨g2,0,none⟩ vf') 3 1 vf' (pre.length+1) (pre.map (Value.int .i64)++ [.int .i64 p]):=o4.kept fun q hq=>Below.heap_setCell _ _ _ _ (fun e=>by
   have e:q=g2:=e
   rcases hnew q hq with h|h
   ·have:=a4 q h; omega
   ·omega)
  refine KW.endN (hrec2.kept ((Below.heap_setCell _ _ _ _ (by show L≠g2; exact hLg)).trans rec4)) fun W5 hx5 hsz5 hk5 hrec5=> ?_
  have hs5:W5.heap.size=w4.heap.size:=by rw [hsz5]; simp
  refine ⟨by omega,fun k hk1 hk2 hk3=> ?_,fun _=>⟨fun k=>k=g2∨vf'.ownBlock=some k,⟨⟨(hx5.less (by omega)).below (hw4.setCell (by show w.heap.size≤g2; omega) _) (Nat.le_refl _),vf',(b4.set 0 vf').ext hx5,by simpa using o5.ext hx5,fun q hq=> ?_,rfl⟩,fun h=> ?_,fun h=> ?_,hrec5⟩,fun k hk=> ?_⟩,fun h=>by cases h⟩
  ·refine (hk5 k hk3).trans ((Below.heap_setCell _ _ _ _ (fun e=>hk2 (.inl e))).trans ((hg4.block k (by omega) (fun e=>hk2 (.inr e.symm))).trans ((f3.below.block k (by omega)).trans (hk k hk3))))
  ·rcases hnew q hq with h|h
   ·exact a4 q h
   ·omega
  ·rcases h with h|h
   ·exact hLg h
   ·rcases hnew L h with h|h
    ·exact hLv h
    ·omega
  ·rcases h with h|h
   ·exact hDg h
   ·rcases hnew D h with h|h
    ·exact hDv h
    ·omega
  ·rcases hk with rfl|hk
   ·exact ⟨.inl (.inl rfl),by omega⟩
   ·rcases hnew k hk with h|h
    ·exact ⟨.inl (.inr h),by have:=hvlt k h; omega⟩
    ·refine ⟨.inr (by omega),?_⟩
     have:=o4.lt hk
     omega
 ·rintro D xs M W hD hdone ⟨a1,vf,a2,a3,a4,rfl⟩ hdef
  refine KW.blockN (KW.then_ ?_)
  refine rnT ?_
  refine TW.ld rfl (a2.cell 0) ?_
  refine rnT ?_
  have hgD:g2≠D:=fun e=>by subst e; unfold Blk at a2; rw [hdef] at a2; cases a2
  refine ret1M Tryz.results243 rfl hdef ⟨Below.putCtl a1 (by omega),xs,hdone,a3.kept fun q hq=>World.putObj_heap_other (fun e=> ?_),fun q hq=>by have:=a4 q hq; omega⟩
  subst e
  rcases a3.2 with ⟨rfl,_⟩|⟨g',cap',cur,hv,_,hh,_⟩
  ·simp [Value.ownBlock] at hq
  ·rw [hv] at hq
   simp [Value.ownBlock] at hq
   subst hq
   rw [hdef] at hh
   cases hh
 ·rintro D c pre M W hD h
  exact h.elim
theorem collect_c (hit:IterOK Tryz.prog gf cap (fun x:Int=> [.int .i64 x]) Pos Done own w) (hen:enters Tryz.prog gf=true) (hown: ∀k,own k→k<w.heap.size) (hbd: ∀pre x,Pos pre x→pre.length≤1000000000) :
  Gives Tryz.prog 218 #[.func (.func gf) #[] cap.toArray] w fun v w'=>Below w.heap.size w w'∧ ∃xs,Done xs∧OwnS w' 3 1 v xs.length (xs.map (Value.int .i64))∧ ∀g,v.ownBlock=some g→w.heap.size≤g:=by
 refine gv (f:=218) ?_
 refine rnT ?_
 refine TW.cl rfl (appendSeq_c hit hen hown hbd) ?_
 rintro y1 w1 h1
 refine rnT ?_
 refine rt1 rfl (h1)
theorem sorted_c (hit:IterOK Tryz.prog gf cap (fun x:Int=> [.int .i64 x]) Pos Done own w) (hen:enters Tryz.prog gf=true) (hown: ∀k,own k→k<w.heap.size) (hbd: ∀pre x,Pos pre x→pre.length≤1000000000) (hdb: ∀xs,Done xs→xs.length≤1000000000) :
  Gives Tryz.prog 148 #[.func (.func gf) #[] cap.toArray] w fun v w'=>Below w.heap.size w w'∧ ∃xs,Done xs∧OwnS w' 3 1 v xs.length ((xs.mergeSort fun x y=>decide (x≤y)).map (Value.int .i64))∧ ∀g,v.ownBlock=some g→w.heap.size≤g:=by
 refine gv (f:=148) ?_
 refine rnT ?_
 refine TW.cl rfl (collect_c hit hen hown hbd) ?_
 rintro y1 w1 ⟨hb1,xs,hd,hO,hg⟩
 refine rnT ?_
 have hxl:xs.length<4611686018427387904:=by have:=hdb xs hd; omega
 refine TW.cl rfl (sort_c hO hxl) ?_
 rintro y2 w2 ⟨hg2,hO2⟩
 refine rnT ?_
 refine rt1 rfl ⟨hb1.grown hg2 hb1.size hg,xs,hd,hO2,hg⟩
def Cnts (w:World) (b:Nat) (S:List Int) (T:Int):Prop:= ∃m,MapL intK w b m∧(∀x,x∈m.map (·.1)↔x∈S)∧ ∀p∈m,∃c:Int,p.2= .int .i64 c∧0≤c∧c≤T
theorem recordsOf_c {v:Value} {l:List Ev} (hl:SE w v l) (hsm:l.length≤1000) (hne: ∀e∈l,e.needs.length≤1000) :
  Gives Tryz.prog 77 #[v] w fun x w'=>Below w.heap.size w w'∧OwnS w' 3 1 x (recsS l).length ((recsS l).map (Value.int .i64))∧ ∀g,x.ownBlock=some g→w.heap.size≤g:=by
 obtain ⟨A,cap,rfl,_⟩:=hl.form
 refine gv (f:=77) ?_
 refine rnT ?_
 refine TW.makeMapL intK rfl rfl ?_
 rintro b w1 hbw hw1 hb1 hM1
 refine rnT ?_
 refine CW.lp [3,9,10] (fun i:Nat=> [(11,none,.int .i64 (i:Int))])
  (fun i W=>i≤l.length∧But b w1 W∧Cnts W b (needsOf (l.take i)) (i*1000)) (fun i=>l.length-i) 0 ⟨Nat.zero_le _,But.of_below (Below.refl _ _),[],hM1,fun x=>by simp [needsOf],fun p hp=>by cases hp⟩ ?_
 rintro i W ⟨hi,hbut,hC⟩
 have hbW:Below w.heap.size w W:=But.below hb1 hbut (by omega)
 refine rnT ?_
 refine CW.pk [3,9,10,11,12] rfl ?_
 refine CW.condP rfl (fun hlt=> ?_) (fun hge=> ?_)
 ·have hil:i<l.length:=by omega
  have hlW:=se_step hl hbW
  obtain ⟨ad,rfl⟩:=hlW.addr (by omega)
  obtain ⟨e,he⟩: ∃e,l[i]?=some e:=⟨l[i],List.getElem?_eq_getElem hil⟩
  obtain ⟨nv,hcells,i1,i2,i3,hneeds⟩:=SE.get hlW he
  obtain ⟨C,ncap,rfl,_⟩:=hneeds.form
  have hnl:=hne e (List.mem_of_getElem? he)
  refine rnT ?_
  refine TW.ldS rfl (hcells) ?_
  refine TW.newVar rfl zc60 rfl sz60 rfl rfl ?_
  rintro g2 w2 f2
  refine rnT ?_
  refine TW.ld rfl (f2.blk.fld rfl) ?_
  refine rnT ?_
  refine CW.lp [3,9,10,11,16,17] (fun j:Nat=> [(18,none,.int .i64 (j:Int))])
   (fun j W'=>j≤e.needs.length∧But b w1 W'∧But b w2 W'∧Cnts W' b (needsOf (l.take i)++e.needs.take j) (i*1000+j)) (fun j=>e.needs.length-j) 0 ⟨Nat.zero_le _,hbut.step f2.below,But.of_below (Below.refl _ _),?_⟩ ?_
  ·obtain ⟨m,h1,h2,h3⟩:=hC
   exact ⟨m,h1.below f2.below,by simpa using h2,by simpa using h3⟩
  rintro j W' ⟨hj,hbut1,hbut2,m,hm,hmk,hmv⟩
  have hbW':Below w.heap.size w W':=But.below hb1 hbut1 (by omega)
  refine rnT ?_
  refine CW.condP rfl (fun hlt2=> ?_) (fun hge2=> ?_)
  ·have hjl:j<e.needs.length:=by omega
   have hn':SL intT (fun k=>k<w.heap.size) W' (.slice C e.needs.length ncap) e.needs:=by
    obtain ⟨nv',hcells',_,_,_,hneeds'⟩:=SE.get hl he
    have hcw:=hcells' 3 nv' rfl
    have hcW:=(hbW.cell (block_lt_of_cell hcw)).trans hcw
    have:=hcells 3 _ rfl
    rw [hcW] at this
    cases this
    exact hneeds'.below hbW'
   obtain ⟨ad2,rfl⟩:=hn'.addr (by omega)
   have hx:e.needs[j]?=some e.needs[j]:=List.getElem?_eq_getElem hjl
   refine rnT ?_
   refine TW.ld rfl (hn'.getI hx) ?_
   refine rnT ?_
   refine TW.lookup1 intK e.needs[j] rfl rfl Tryz.underlying206 ze3 rfl rfl hm ?_
   rintro vc hvc
   obtain ⟨c,rfl,hc0,hc1⟩: ∃c:Int,vc= .int .i64 c∧0≤c∧c≤i*1000+j:=by
    rcases hvc with h|⟨_,rfl⟩
    ·exact hmv _ h
    ·exact ⟨0,rfl,by omega,by omega⟩
   refine rnT ?_
   refine TW.mapUpdateL intK e.needs[j] rfl Tryz.underlying206 rfl rfl rfl hm ?_
   rintro w4 hs4 hbut4 hM4
   refine rnT ?_
   refine KW.rd (j+1) ⟨by omega,hbut1.trans hbut4,hbut2.trans hbut4,_,hM4,fun x=> ?_,fun p hp=> ?_⟩
   ·rw [List.take_add_one,hx,←List.append_assoc,List.mem_append,←hmk x,List.mem_map,List.mem_map]
    constructor
    ·rintro ⟨p,hp,rfl⟩
     rcases mem_lput.1 hp with rfl|⟨h,_⟩
     ·exact .inr (by simp)
     ·exact .inl ⟨p,h,rfl⟩
    ·rintro (⟨p,hp,rfl⟩|h)
     ·by_cases hpe:p.1=e.needs[j]
      ·exact ⟨_,mem_lput.2 (.inl rfl),hpe.symm⟩
      ·exact ⟨p,mem_lput.2 (.inr ⟨hp,hpe⟩),rfl⟩
     ·simp at h
      exact ⟨_,mem_lput.2 (.inl rfl),h.symm⟩
   ·rcases mem_lput.1 hp with rfl|⟨h,_⟩
    ·exact ⟨c+1,rfl,by omega,by omega⟩
    ·obtain ⟨c',h1,h2,h3⟩:=hmv p h
     exact ⟨c',h1,h2,by omega⟩
  ·refine rnT ?_
   refine KW.rd (i+1) ⟨by omega,hbut1,m,hm,fun x=> ?_,fun p hp=> ?_⟩
   ·rw [hmk x,show j=e.needs.length by omega,List.take_length,List.take_add_one,he]
    simp [needsOf,List.flatMap_append]
   ·obtain ⟨c',h1,h2,h3⟩:=hmv p hp
    exact ⟨c',h1,h2,by omega⟩
 ·obtain ⟨m,hm,hmk,hmv⟩:=hC
  rw [show i=l.length by omega,List.take_length] at hmk
  have hmlen:m.length≤1000000:=by
   have h1:=nodup_len (l:=m.map (·.1)) (k:=needsOf l) hm.keys (fun x hx=>(hmk x).1 hx)
   have h2: ∀(q:List Ev),(∀e∈q,e.needs.length≤1000)→(needsOf q).length≤q.length*1000:=by
    intro q
    induction q with
    | nil=>intro _; simp [needsOf]
    | cons a q ih =>
     intro hq
     have:=ih (fun e he=>hq e (by simp [he]))
     have h3:=hq a (by simp)
     unfold needsOf at this ⊢
     simp only [List.flatMap_cons,List.length_append,List.length_cons]
     omega
   have:=h2 l hne
   simp at h1
   omega
  refine rnT ?_
  refine TW.cl rfl (keys_c) ?_
  rintro y5 w5 ⟨hb5,g5,rfl,hB5⟩
  have q1: ∀k,(k=g5∨k=b)→k<w5.heap.size:=fun k hk=>by
   rcases hk with rfl|rfl
   ·exact hB5.lt
   ·exact (hm.below hb5).lt
  have q2: ∀pre x,keyPos (m.map (·.1)) pre x→pre.length≤1000000000:=fun pre x hp=>by
   have:=nodup_len (l:=pre++ [x]) (k:=m.map (·.1)) hp.1 hp.2
   simp at this
   omega
  have q3: ∀xs,keyAll (m.map (·.1)) xs→xs.length≤1000000000:=fun xs hx=>by
   have:=nodup_len (l:=xs) (k:=m.map (·.1)) hx.1 (fun y hy=>(hx.2 y).1 hy)
   simp at this
   omega
  refine TW.cl rfl (sorted_c (keys_iter hB5 (hm.below hb5)) en219 q1 q2 q3) ?_
  rintro y6 w6 ⟨hb6,xs,hxs,hO6,hg6⟩
  have hrec:recsS l=xs.mergeSort fun x y=>decide (x≤y):=by
   refine inc_ext (recsS_inc l) (inc_sorted hxs.1) (fun x=> ?_)
   rw [List.mem_mergeSort,hxs.2 x,hmk x,mem_recsS]
   unfold needsOf
   rw [List.mem_flatMap]
  refine rnT ?_
  refine rt1 rfl ⟨(hbW.step hb5).step hb6,?_,fun q hq=>by have:=hg6 q hq; have:=hb5.size; have:=hbW.size; omega⟩
  rw [hrec,List.length_mergeSort]
  exact hO6
end Go.Proofs.YtobaafdejnimkaaGreatDoor
namespace Go.PF
open Go.RowKit
section
variable {P:Program} {r:Option Nat} {Q:Exit→Act→World→Prop} {N:Nat} {ds:List Deferred}
theorem CW.loopD0 {α:Type} {c:Code} {E0:Env} {w:World} (Dd:α→List Deferred) (E:α→Env) (J:α→World→Prop) (m:α→Nat) (x0:α) (h0:J x0 w) (hE: ∀a,Fit N ds E0 a→Fit N (Dd x0) (E x0) a)
  (round: ∀x w,J x w→CW P r (Exit.then (fun a' w'=> ∃x',Fit N (Dd x') (E x') a'∧J x' w'∧m x'<m x) Q) N (Dd x) c (E x) w):CW P r Q N ds (.loop c) E0 w:=by
 classical
 intro a ha
 let I:Act→World→Prop:=fun a w=> ∃x,Fit N (Dd x) (E x) a∧J x w
 let M:Act→World→Nat→Prop:=fun a w n=> ∃x,Fit N (Dd x) (E x) a∧J x w∧m x=n
 have hex: ∀a w,I a w→ ∃n,M a w n∧ ∀k,M a w k→n≤k:=by
  intro a w ⟨x,h1,h2⟩
  have key: ∀k,(∃j,j≤k∧M a w j)→ ∃n,M a w n∧ ∀k,M a w k→n≤k:=by
   intro k
   induction k with
   | zero =>
    rintro ⟨j,hj,hm⟩
    have:j=0:=by omega
    subst this
    exact ⟨0,hm,fun k _=>Nat.zero_le k⟩
   | succ k ih =>
    rintro ⟨j,hj,hm⟩
    by_cases hk: ∃j,j≤k∧M a w j
    ·exact ih hk
    ·refine ⟨j,hm,fun i hi=> ?_⟩
     rcases Nat.lt_or_ge i j with hlt|hge
     ·exact absurd ⟨i,by omega,hi⟩ hk
     ·exact hge
  exact key (m x) ⟨m x,Nat.le_refl _,x,h1,h2,rfl⟩
 let μ:Act→World→Nat:=fun a w=>if h:I a w then Classical.choose (hex a w h) else 0
 have hμ: ∀a w,I a w→ ∃x,Fit N (Dd x) (E x) a∧J x w∧m x=μ a w:=by
  intro a w h
  have:=(Classical.choose_spec (hex a w h)).1
  simpa [μ,h] using this
 have hμle: ∀a w x,Fit N (Dd x) (E x) a→J x w→μ a w≤m x:=by
  intro a w x h1 h2
  have hI:I a w:=⟨x,h1,h2⟩
  have:=(Classical.choose_spec (hex a w hI)).2 (m x) ⟨x,h1,h2,rfl⟩
  simpa [μ,hI] using this
 refine wpIn_loop I μ ⟨x0,hE a ha,h0⟩ fun a1 w1 hI=> ?_
 obtain ⟨x,h1,h2,h3⟩:=hμ a1 w1 hI
 refine wpIn_mono (round x w1 h2 a1 h1) fun e a2 w2 hq=> ?_
 cases e with
 | normal =>
  obtain ⟨x',q1,q2,q3⟩:=hq
  exact ⟨⟨x',q1,q2⟩,by rw [←h3]; exact Nat.lt_of_le_of_lt (hμle a2 w2 x' q1 q2) q3⟩
 | _=>exact hq
def markOf (D:Nat):Deferred:= {target:= .collected D,args:= #[]}
theorem CW.loopD {α:Type} {c:Code} {E:Env} {w:World} (Dd:α→List Deferred) (F:α→Env) (J:α→World→Prop) (m:α→Nat) (x0:α) (is:List Nat) (hD:Dd x0=ds) (h0:J x0 w) (hE:PF.pick E is=some (F x0))
  (round: ∀x w,J x w→CW P r (Exit.then (fun a' w'=> ∃x',Fit N (Dd x') (F x') a'∧J x' w'∧m x'<m x) Q) N (Dd x) c (F x) w):CW P r Q N ds (.loop c) E w :=
 CW.loopD0 Dd F J m x0 h0 (fun _ ha=>by rw [hD]; exact ha.pick hE) round
theorem KW.roundD {α:Type} {E:Env} {w:World} {Dd:α→List Deferred} {F:α→Env} {J:α→World→Prop} {m:α→Nat} {x:α} (x':α) (is:List Nat) (hD:Dd x'=ds) (hp:PF.pick E is=some (F x')) (hJ:J x' w) (hm:m x'<m x) :
  KW N ds (Exit.then (fun a' w'=> ∃x',Fit N (Dd x') (F x') a'∧J x' w'∧m x'<m x) Q .normal) E w :=
 fun _ ha=>⟨x',by rw [hD]; exact ha.pick hp,hJ,hm⟩
variable {fn:Func} {R:Value→World→Prop} {E:Env} {w:World}
theorem leaves_marks (hres:fn.results= #[]) {tmps:Array Value} {n:Nat}: ∀(Ds:List Nat) (w:World),Ds.Nodup→(∀D∈Ds,n≤D∧w.heap[D]?=some (.deferred (some [])))→(∀w',ExtF n w w'→R (.tuple #[]) w') →
  LeavesInM (FR none) 0 P fn tmps (fun e w'=> ∃v,e= .returned v∧R v w') (Ds.map markOf) .returning w
 | [],w,_,_,hR=>⟨.tuple #[],results_none hres _ _ _,.tuple #[],rfl,hR w (ExtF.refl _ _)⟩
 | D::Ds,w,hn,hD,hR=>by
  have hn':=List.nodup_cons.1 hn
  obtain ⟨h1,h2⟩:=hD D (by simp)
  have hext:ExtF n w (w.putObj D (.deferred none)):=ExtF.putObj h2 rfl h1
  refine ⟨by simp,.inl ⟨D,_,rfl,run_takeDeferred h2,?_⟩⟩
  refine leaves_marks hres Ds _ hn'.2 (fun D' hD'=> ?_) (fun w' hx=>hR w' (hext.trans hx))
  obtain ⟨h3,h4⟩:=hD D' (by simp [hD'])
  exact ⟨h3,(World.putObj_heap_other (fun e=>hn'.1 (by rw [←e]; exact hD'))).trans h4⟩
theorem retMs {n:Nat} (Ds:List Nat) (hres:fn.results= #[]) (hn:Ds.Nodup) (hD: ∀D∈Ds,n≤D∧w.heap[D]?=some (.deferred (some []))) (hR: ∀w',ExtF n w w'→R (.tuple #[]) w') (e:Exit) (he:e= .ret∨e= .normal) :
  KW N (Ds.map markOf) (bodyPostM (FR none) 0 P fn (fun e w'=> ∃v,e= .returned v∧R v w') e) E w:=by
 intro a ha
 have key:LeavesInM (FR none) 0 P fn a.tmps (fun e w'=> ∃v,e= .returned v∧R v w') a.defers .returning w:=by
  rw [ha.defers]
  exact leaves_marks hres Ds w hn hD hR
 rcases he with rfl|rfl
 ·exact key
 ·exact key
theorem ret2M0 {s t:Nat} {v u:Value} (hres:fn.results= #[.tmp s,.tmp t]) (hs:look E s=some (none,v)) (ht:look E t=some (none,u)) (hR:R (.tuple #[v,u]) w):KW N [] (bodyPostM (FR none) 0 P fn (fun e w'=> ∃v,e= .returned v∧R v w') .ret) E w:=by
 intro a ha
 have key:LeavesInM (FR none) 0 P fn a.tmps (fun e w'=> ∃v,e= .returned v∧R v w') a.defers .returning w:=by
  rw [ha.defers]
  exact ⟨.tuple #[v,u],by rw [results_tmp2 hres a.tmps P w,(ha.slots s none v hs).1 trivial,(ha.slots t none u ht).1 trivial],_,rfl,hR⟩
 exact key
theorem ret2M {D s t:Nat} {v u:Value} (hres:fn.results= #[.tmp s,.tmp t]) (hs:look E s=some (none,v)) (ht:look E t=some (none,u)) (hD:w.heap[D]?=some (.deferred (some []))) (hR:R (.tuple #[v,u]) (w.putObj D (.deferred none))) :
  KW N ({target:= .collected D,args:= #[]}:: []) (bodyPostM (FR none) 0 P fn (fun e w'=> ∃v,e= .returned v∧R v w') .ret) E w :=
 retM (fun a W ha _=>by rw [results_tmp2 hres a.tmps P W,(ha.slots s none v hs).1 trivial,(ha.slots t none u ht).1 trivial]) hD hR .ret (.inl rfl)
end
end Go.PF
