/- Texts of this claim,joined. -/
import Derived.Test.YtffjgpoadfkjlaaGreatDoorQI
import Derived.Lib.LaidTab
set_option linter.unusedSimpArgs false
set_option linter.unusedVariables false
set_option maxRecDepth 100000
set_option maxHeartbeats 4000000
namespace Go.Ord
abbrev Ln:=Nat×Nat×Int
inductive ReachL (L:List Ln):Nat→Nat→Prop
 | refl (a:Nat):ReachL L a a
 | step {a b c:Nat} {t:Int}:ReachL L a b→(b,c,t)∈L→ReachL L a c
theorem ReachL.trans {L:List Ln} {a b c:Nat} (h:ReachL L a b) (k:ReachL L b c):ReachL L a c:=by
 induction k with
 | refl=>exact h
 | step _ hm ih=>exact ih.step hm
theorem ReachL.one {L:List Ln} {a b:Nat} {t:Int} (h:(a,b,t)∈L):ReachL L a b:=(ReachL.refl a).step h
abbrev Tab12:=List Int
def g12 (M:Tab12) (a b:Nat):Int:=M.getD (12*a+b) (-1)
def relax12 (M:Tab12) (a b:Nat) (t:Int):Tab12:=if g12 M a b= -1∨t<g12 M a b then M.set (12*a+b) t else M
theorem relax12_len (M:Tab12) (a b:Nat) (t:Int):(relax12 M a b t).length=M.length:=by
 unfold relax12
 split<;>simp
theorem g12_relax {M:Tab12} {a b:Nat} {t:Int} (hl:M.length=144) (ha:a<12) (hb:b<12) (x y:Nat) (hx:x<12) (hy:y<12) :
  g12 (relax12 M a b t) x y=if x=a∧y=b∧(g12 M a b= -1∨t<g12 M a b) then t else g12 M x y:=by
 unfold relax12
 by_cases hc:g12 M a b= -1∨t<g12 M a b
 ·rw [if_pos hc]
  unfold g12
  rw [List.getD_eq_getElem?_getD,List.getElem?_set]
  by_cases he:x=a∧y=b
  ·obtain ⟨rfl,rfl⟩:=he
   rw [if_pos rfl,if_pos (by omega),if_pos ⟨rfl,rfl,hc⟩]
   rfl
  ·rw [if_neg (by omega),if_neg (fun h=>he ⟨h.1,h.2.1⟩),List.getD_eq_getElem?_getD]
 ·rw [if_neg hc,if_neg (fun h=>hc h.2.2)]
def init12:Tab12:=(List.range 144).map fun i=>if i / 12=i%12 then 0 else -1
theorem g12_init {a b:Nat} (ha:a<12) (hb:b<12):g12 init12 a b=if a=b then 0 else -1:=by
 unfold g12 init12
 rw [List.getD_eq_getElem?_getD,List.getElem?_map,List.getElem?_range (by omega)]
 show (if (12*a+b) / 12=(12*a+b)%12 then (0:Int) else -1)=_
 have h1:(12*a+b) / 12=a:=by omega
 have h2:(12*a+b)%12=b:=by omega
 rw [h1,h2]
def lines12 (M:Tab12) (L:List Ln):Tab12:=L.foldl (fun M l=>relax12 M l.1 l.2.1 l.2.2) M
def via12 (o a:Nat) (M:Tab12) (b:Nat):Tab12:=if g12 M a o≠ -1∧g12 M o b≠ -1 then relax12 M a b (g12 M a o+g12 M o b) else M
def row12 (o:Nat) (M:Tab12) (a:Nat) (n:Nat):Tab12:=(List.range n).foldl (via12 o a) M
def rnd12 (M:Tab12) (o n:Nat):Tab12:=(List.range n).foldl (fun M a=>row12 o M a 12) M
def all12 (M:Tab12) (n:Nat):Tab12:=(List.range n).foldl (fun M o=>rnd12 M o 12) M
def relaxed12 (L:List Ln):Tab12:=all12 (lines12 init12 L) 12
theorem row12_succ (o:Nat) (M:Tab12) (a n:Nat):row12 o M a (n+1)=via12 o a (row12 o M a n) n:=by simp only [row12,List.range_succ,List.foldl_append,List.foldl_cons,List.foldl_nil]
theorem rnd12_succ (M:Tab12) (o n:Nat):rnd12 M o (n+1)=row12 o (rnd12 M o n) n 12:=by simp only [rnd12,List.range_succ,List.foldl_append,List.foldl_cons,List.foldl_nil]
theorem all12_succ (M:Tab12) (n:Nat):all12 M (n+1)=rnd12 (all12 M n) n 12:=by simp only [all12,List.range_succ,List.foldl_append,List.foldl_cons,List.foldl_nil]
theorem row12_zero (o:Nat) (M:Tab12) (a:Nat):row12 o M a 0=M:=by simp [row12]
theorem rnd12_zero (M:Tab12) (o:Nat):rnd12 M o 0=M:=by simp [rnd12]
theorem all12_zero (M:Tab12):all12 M 0=M:=by simp [all12]
theorem lines12_snoc (M:Tab12) (L:List Ln) (l:Ln):lines12 M (L++ [l])=relax12 (lines12 M L) l.1 l.2.1 l.2.2:=by simp [lines12]
def initL (k:Nat):Tab12:=(List.range 144).map fun i=>if i<k then (if i / 12=i%12 then 0 else -1) else 0
theorem initL_len (k:Nat):(initL k).length=144:=by simp [initL]
theorem initL_all:initL 144=init12:=by
 unfold initL init12
 refine List.map_congr_left fun i hi=> ?_
 rw [if_pos (List.mem_range.1 hi)]
theorem initL_zero:initL 0=List.replicate 144 0:=by
 unfold initL
 apply List.ext_getElem?
 intro i
 rw [List.getElem?_map,List.getElem?_replicate]
 by_cases hi:i<144
 ·rw [List.getElem?_range hi,if_pos hi]; rfl
 ·rw [List.getElem?_eq_none (by simpa using hi),if_neg hi]; rfl
theorem initL_succ {k:Nat} (hk:k<144):initL (k+1)=if k / 12=k%12 then initL k else (initL k).set k (-1):=by
 apply List.ext_getElem?
 intro i
 have e: ∀m,(initL m)[i]?=if i<144 then some (if i<m then (if i / 12=i%12 then 0 else -1) else 0) else none:=fun m=>by
  unfold initL
  rw [List.getElem?_map]
  by_cases hi:i<144
  ·rw [List.getElem?_range hi,if_pos hi]; rfl
  ·rw [List.getElem?_eq_none (by simpa using hi),if_neg hi]; rfl
 by_cases hd:k / 12=k%12
 ·rw [if_pos hd,e,e]
  by_cases hik:i=k
  ·subst hik
   rw [if_pos hk,if_pos hk,if_pos (by omega),if_pos hd,if_neg (by omega)]
  ·by_cases h:i<k
   ·rw [if_pos (show i<k+1 by omega),if_pos h]
   ·rw [if_neg (show¬i<k+1 by omega),if_neg h]
 ·rw [if_neg hd,List.getElem?_set,e,e]
  by_cases hik:k=i
  ·subst hik
   rw [if_pos rfl,if_pos hk,if_pos (by omega),if_neg hd,if_pos (by rw [initL_len]; exact hk)]
  ·rw [if_neg hik]
   by_cases h:i<k
   ·rw [if_pos (show i<k+1 by omega),if_pos h]
   ·rw [if_neg (show¬i<k+1 by omega),if_neg h]
structure T12 (L:List Ln) (B:Int) (M:Tab12):Prop where
 len:M.length=144
 diag: ∀a,a<12→g12 M a a=0
 rng: ∀a b,a<12→b<12→ -1≤g12 M a b∧g12 M a b≤B
 sound: ∀a b,a<12→b<12→g12 M a b≠ -1→ReachL L a b
theorem T12.more {L:List Ln} {B B':Int} {M:Tab12} (h:T12 L B M) (hb:B≤B'):T12 L B' M:=⟨h.len,h.diag,fun a b h1 h2=>⟨(h.rng a b h1 h2).1,Int.le_trans (h.rng a b h1 h2).2 hb⟩,h.sound⟩
def Le12 (M M':Tab12):Prop:= ∀a b,a<12→b<12→g12 M a b≠ -1→g12 M' a b≠ -1
theorem Le12.refl (M:Tab12):Le12 M M:=fun _ _ _ _ h=>h
theorem Le12.trans {a b c:Tab12} (h:Le12 a b) (k:Le12 b c):Le12 a c:=fun x y hx hy hn=>k x y hx hy (h x y hx hy hn)
theorem T12.init (L:List Ln):T12 L 0 init12:=by
 refine ⟨by simp [init12],fun a ha=>by rw [g12_init ha ha,if_pos rfl],fun a b ha hb=> ?_,fun a b ha hb h=> ?_⟩
 ·rw [g12_init ha hb]; split<;>omega
 ·rw [g12_init ha hb] at h
  by_cases e:a=b
  ·subst e; exact .refl _
  ·rw [if_neg e] at h; exact absurd rfl h
theorem T12.relax {L:List Ln} {B:Int} {M:Tab12} (h:T12 L B M) {a b:Nat} {t:Int} (ha:a<12) (hb:b<12) (ht:0≤t) (htB:t≤B) (hr:ReachL L a b):T12 L B (relax12 M a b t)∧Le12 M (relax12 M a b t)∧g12 (relax12 M a b t) a b≠ -1:=by
 have hg:=fun x y hx hy=>g12_relax (t:=t) h.len ha hb x y hx hy
 refine ⟨⟨by rw [relax12_len]; exact h.len,fun x hx=> ?_,fun x y hx hy=> ?_,fun x y hx hy hn=> ?_⟩,fun x y hx hy hn=> ?_,?_⟩
 ·rw [hg x x hx hx]
  split
  ·rename_i hc
   obtain ⟨rfl,rfl,hc⟩:=hc
   rw [h.diag _ hx] at hc
   omega
  ·exact h.diag x hx
 ·rw [hg x y hx hy]
  split
  ·omega
  ·exact h.rng x y hx hy
 ·rw [hg x y hx hy] at hn
  split at hn
  ·rename_i hc
   obtain ⟨rfl,rfl,_⟩:=hc
   exact hr
  ·exact h.sound x y hx hy hn
 ·rw [hg x y hx hy]
  split
  ·omega
  ·exact hn
 ·rw [hg a b ha hb]
  split
  ·omega
  ·rename_i hc
   intro e
   exact hc ⟨rfl,rfl,.inl e⟩
def LnOK (n:Nat) (L:List Ln):Prop:= ∀l∈L,l.1<n∧l.2.1<n∧1≤l.2.2∧l.2.2≤5000
theorem lines12_ok {L:List Ln}: ∀(K:List Ln) (M:Tab12),(∀l∈K,l∈L)→LnOK 12 L→T12 L 5000 M→T12 L 5000 (lines12 M K)∧Le12 M (lines12 M K)∧ ∀l∈K,g12 (lines12 M K) l.1 l.2.1≠ -1
 | [],M,_,_,h=>⟨h,Le12.refl _,fun l hl=>by cases hl⟩
 | l::K,M,hs,hL,h=>by
  have hl:=hL l (hs l (by simp))
  obtain ⟨h1,h2,h3⟩:=h.relax (t:=l.2.2) hl.1 hl.2.1 (by omega) hl.2.2.2 (ReachL.one (t:=l.2.2) (hs l (by simp)))
  obtain ⟨k1,k2,k3⟩:=lines12_ok K (relax12 M l.1 l.2.1 l.2.2) (fun x hx=>hs x (by simp [hx])) hL h1
  refine ⟨k1,h2.trans k2,fun x hx=> ?_⟩
  rcases List.mem_cons.1 hx with rfl|hx
  ·exact k2 _ _ hl.1 hl.2.1 h3
  ·exact k3 x hx
structure R12 (L:List Ln) (B:Int) (o:Nat) (M0 M:Tab12):Prop where
 t:T12 L (2*B) M
 col: ∀x,x<12→g12 M x o=g12 M0 x o∧g12 M o x=g12 M0 o x
theorem R12.via {L:List Ln} {B:Int} {o a b:Nat} {M0 M:Tab12} (h0:T12 L B M0) (h:R12 L B o M0 M) (ho:o<12) (ha:a<12) (hb:b<12):R12 L B o M0 (via12 o a M b)∧Le12 M (via12 o a M b)∧(g12 M0 a o≠ -1→g12 M0 o b≠ -1→g12 (via12 o a M b) a b≠ -1):=by
 unfold via12
 by_cases hc:g12 M a o≠ -1∧g12 M o b≠ -1
 ·rw [if_pos hc]
  have e1:=(h.col a ha).1
  have e2:=(h.col b hb).2
  have r1:=h0.rng a o ha ho
  have r2:=h0.rng o b ho hb
  rw [e1,e2] at hc ⊢
  obtain ⟨k1,k2,k3⟩:=h.t.relax (t:=g12 M0 a o+g12 M0 o b) ha hb (by omega) (by omega) ((h0.sound a o ha ho hc.1).trans (h0.sound o b ho hb hc.2))
  refine ⟨⟨k1,fun x hx=> ?_⟩,k2,fun _ _=>k3⟩
  have hd:=h0.diag o ho
  have hco:=h.col o ho
  constructor
  ·rw [g12_relax h.t.len ha hb x o hx ho,←(h.col x hx).1]
   by_cases hq:x=a∧o=b∧(g12 M a b= -1∨g12 M0 a o+g12 M0 o b<g12 M a b)
   ·obtain ⟨rfl,rfl,hq⟩:=hq
    rw [hd,e1] at hq
    omega
   ·rw [if_neg hq]
  ·rw [g12_relax h.t.len ha hb o x ho hx,←(h.col x hx).2]
   by_cases hq:o=a∧x=b∧(g12 M a b= -1∨g12 M0 a o+g12 M0 o b<g12 M a b)
   ·obtain ⟨rfl,rfl,hq⟩:=hq
    rw [hd,e2] at hq
    omega
   ·rw [if_neg hq]
 ·rw [if_neg hc]
  refine ⟨h,Le12.refl _,fun h1 h2=>absurd ⟨?_,?_⟩ hc⟩
  ·rw [(h.col a ha).1]; exact h1
  ·rw [(h.col b hb).2]; exact h2
theorem R12.row {L:List Ln} {B:Int} {o a:Nat} {M0 M:Tab12} (h0:T12 L B M0) (ho:o<12) (ha:a<12) (h:R12 L B o M0 M): ∀(n:Nat),n≤12→R12 L B o M0 (row12 o M a n)∧Le12 M (row12 o M a n)∧ ∀b,b<n→g12 M0 a o≠ -1→g12 M0 o b≠ -1→g12 (row12 o M a n) a b≠ -1:=by
 intro n
 induction n with
 | zero =>
  intro _
  rw [show row12 o M a 0=M from rfl]
  exact ⟨h,Le12.refl _,fun b hb=>by omega⟩
 | succ n ih =>
  intro hn
  obtain ⟨k1,k2,k3⟩:=ih (by omega)
  have e:row12 o M a (n+1)=via12 o a (row12 o M a n) n:=by simp only [row12,List.range_succ,List.foldl_append,List.foldl_cons,List.foldl_nil]
  rw [e]
  obtain ⟨j1,j2,j3⟩:=R12.via (b:=n) h0 k1 ho ha (by omega)
  refine ⟨j1,k2.trans j2,fun b hb g1 g2=> ?_⟩
  rcases Nat.lt_or_ge b n with hlt|hge
  ·exact j2 a b ha (by omega) (k3 b hlt g1 g2)
  ·have:b=n:=by omega
   subst this
   exact j3 g1 g2
theorem R12.rnd {L:List Ln} {B:Int} {o:Nat} {M0:Tab12} (hB:0≤B) (h0:T12 L B M0) (ho:o<12): ∀(n:Nat),n≤12→R12 L B o M0 (rnd12 M0 o n)∧Le12 M0 (rnd12 M0 o n)∧ ∀(a b:Nat),a<n→b<12→g12 M0 a o≠ -1→g12 M0 o b≠ -1→g12 (rnd12 M0 o n) a b≠ -1:=by
 intro n
 induction n with
 | zero =>
  intro _
  rw [show rnd12 M0 o 0=M0 from rfl]
  exact ⟨⟨h0.more (by omega),fun x _=>⟨rfl,rfl⟩⟩,Le12.refl _,fun a b ha=>by omega⟩
 | succ n ih =>
  intro hn
  obtain ⟨k1,k2,k3⟩:=ih (by omega)
  have e:rnd12 M0 o (n+1)=row12 o (rnd12 M0 o n) n 12:=by simp only [rnd12,List.range_succ,List.foldl_append,List.foldl_cons,List.foldl_nil]
  rw [e]
  obtain ⟨j1,j2,j3⟩:=R12.row h0 ho (by omega:n<12) k1 12 (by omega)
  refine ⟨j1,k2.trans j2,fun a b ha hb g1 g2=> ?_⟩
  rcases Nat.lt_or_ge a n with hlt|hge
  ·exact j2 a b (by omega) hb (k3 a b hlt hb g1 g2)
  ·have:a=n:=by omega
   subst this
   exact j3 b hb g1 g2
inductive WayL (L:List Ln) (k:Nat):Nat→Nat→Prop
 | refl (a:Nat):WayL L k a a
 | one {a b:Nat} {t:Int}:(a,b,t)∈L→WayL L k a b
 | step {a b c:Nat} {t:Int}:WayL L k a b→b<k→(b,c,t)∈L→WayL L k a c
theorem wayL_all {L:List Ln} {n:Nat} (hL:LnOK n L) {a b:Nat} (h:ReachL L a b):WayL L n a b:=by
 induction h with
 | refl=>exact .refl _
 | step _ hm ih=>exact ih.step (hL _ hm).1 hm
theorem wayL_split {L:List Ln} {k a b:Nat} (h:WayL L (k+1) a b):WayL L k a b∨(WayL L k a k∧WayL L k k b):=by
 induction h with
 | refl=>exact .inl (.refl _)
 | one hm=>exact .inl (.one hm)
 | @step b c t hw hb hm ih =>
  rcases Nat.lt_or_ge b k with hlt|hge
  ·rcases ih with h|⟨h1,h2⟩
   ·exact .inl (h.step hlt hm)
   ·exact .inr ⟨h1,h2.step hlt hm⟩
  ·have:b=k:=by omega
   subst this
   rcases ih with h|⟨h1,_⟩
   ·exact .inr ⟨h,.one hm⟩
   ·exact .inr ⟨h1,.one hm⟩
theorem all12_ok {L:List Ln} {M:Tab12} (hM:T12 L 5000 M) (hone: ∀l∈L,g12 M l.1 l.2.1≠ -1) (hL:LnOK 12 L): ∀(n:Nat),n≤12→T12 L (5000*2 ^ n) (all12 M n)∧ ∀(a b:Nat),a<12→b<12→WayL L n a b→g12 (all12 M n) a b≠ -1:=by
 intro n
 induction n with
 | zero =>
  intro _
  rw [show all12 M 0=M from rfl]
  refine ⟨hM.more (by omega),fun a b ha hb hw=> ?_⟩
  cases hw with
  | refl =>
   rw [hM.diag a ha]
   decide
  | one hm=>exact hone _ hm
  | step _ h _=>omega
 | succ n ih =>
  intro hn
  obtain ⟨k1,k2⟩:=ih (by omega)
  have e:all12 M (n+1)=rnd12 (all12 M n) n 12:=by simp only [all12,List.range_succ,List.foldl_append,List.foldl_cons,List.foldl_nil]
  rw [e]
  have hp:(0:Int)≤5000*2 ^ n:=Int.mul_nonneg (by decide) (Int.pow_nonneg (by decide))
  obtain ⟨j1,j2,j3⟩:=R12.rnd hp k1 (by omega:n<12) 12 (by omega)
  refine ⟨j1.t.more (by rw [Int.pow_succ]; omega),fun a b ha hb hw=> ?_⟩
  rcases wayL_split hw with h|⟨h1,h2⟩
  ·exact j2 a b ha hb (k2 a b ha hb h)
  ·exact j3 a b ha hb (k2 a n ha (by omega) h1) (k2 n b (by omega) hb h2)
theorem table_at {L:List Ln} (hL:LnOK 12 L) {o a b:Nat} (ho:o<12) (ha:a<12) (hb:b≤12):T12 L 40960000 (row12 o (rnd12 (all12 (lines12 init12 L) o) o a) a b):=by
 obtain ⟨h1,h2,h3⟩:=lines12_ok L init12 (fun _ h=>h) hL ((T12.init L).more (by decide))
 obtain ⟨k1,_⟩:=all12_ok h1 h3 hL o (by omega)
 have hp:(0:Int)≤5000*2 ^ o:=Int.mul_nonneg (by decide) (Int.pow_nonneg (by decide))
 obtain ⟨j1,_,_⟩:=R12.rnd hp k1 ho a (by omega)
 obtain ⟨i1,_,_⟩:=R12.row k1 ho ha j1 b hb
 refine i1.t.more ?_
 have:(2:Int) ^ o≤2 ^ 12:=by
  have:=Nat.pow_le_pow_right (n:=2) (by decide) (show o≤12 by omega)
  exact_mod_cast this
 have e:(2:Int) ^ 12=4096:=by decide
 omega
theorem lines12_at {L:List Ln} (hL:LnOK 12 L) (K:List Ln) (hs: ∀l∈K,l∈L):T12 L 5000 (lines12 init12 K):=(lines12_ok K init12 hs hL ((T12.init L).more (by decide))).1
theorem relaxed12_ok {L:List Ln} (hL:LnOK 12 L):T12 L 20480000 (relaxed12 L)∧ ∀a b,a<12→b<12→(g12 (relaxed12 L) a b= -1↔ ¬ReachL L a b):=by
 obtain ⟨h1,h2,h3⟩:=lines12_ok L init12 (fun _ h=>h) hL ((T12.init L).more (by decide))
 obtain ⟨k1,k2⟩:=all12_ok h1 h3 hL 12 (by omega)
 refine ⟨k1,fun a b ha hb=>⟨fun h hr=>k2 a b ha hb (wayL_all hL hr) h,fun hn=>Classical.byContradiction fun h=>hn (k1.sound a b ha hb h)⟩⟩
def gB (r:List Int) (b:Nat):Int:=r.getD b (-1)
def rlxB (r:List Int) (l:Ln):List Int:=if 0≤gB r l.1∧(gB r l.2.1<0∨gB r l.1+l.2.2<gB r l.2.1) then r.set l.2.1 (gB r l.1+l.2.2) else r
def linesB (r:List Int) (L:List Ln):List Int:=L.foldl rlxB r
def rndsB (L:List Ln) (r:List Int):Nat→List Int
 | 0=>r
 | k+1=>linesB (rndsB L r k) L
def startB (n a:Nat):List Int:=(List.replicate n (-1:Int)).set a 0
def rowB (L:List Ln) (n a:Nat):List Int:=rndsB L (startB n a) n
theorem gB_set {r:List Int} {i:Nat} {x:Int} (hi:i<r.length) (b:Nat):gB (r.set i x) b=if b=i then x else gB r b:=by
 unfold gB
 rw [List.getD_eq_getElem?_getD,List.getElem?_set]
 by_cases h:i=b
 ·subst h
  rw [if_pos rfl,if_pos hi,if_pos rfl]
  rfl
 ·rw [if_neg h,if_neg (fun e=>h e.symm),List.getD_eq_getElem?_getD]
structure RB (L:List Ln) (n a:Nat) (B:Int) (r:List Int):Prop where
 len:r.length=n
 own:gB r a=0
 rng: ∀b,-1≤gB r b∧gB r b≤B
 sound: ∀b,b<n→0≤gB r b→ReachL L a b
def LeB (r s:List Int):Prop:= ∀b,0≤gB r b→0≤gB s b
theorem RB.start (L:List Ln) {n a:Nat} (ha:a<n):RB L n a 0 (startB n a):=by
 have hg: ∀b,gB (startB n a) b=if b=a then 0 else -1:=fun b=>by
  unfold startB
  rw [gB_set (by simpa using ha)]
  split
  ·rfl
  ·unfold gB
   rw [List.getD_eq_getElem?_getD,List.getElem?_replicate]
   split<;>rfl
 refine ⟨by simp [startB],by rw [hg,if_pos rfl],fun b=>by rw [hg]; split<;>omega,fun b _ h=> ?_⟩
 rw [hg] at h
 by_cases e:b=a
 ·subst e; exact .refl _
 ·rw [if_neg e] at h; omega
theorem RB.rlx {L:List Ln} {n a:Nat} {B:Int} {r:List Int} (h:RB L n a B r) (hB:0≤B) {l:Ln} (hl:l∈L) (h1:l.1<n) (h2:l.2.1<n) (h3:1≤l.2.2∧l.2.2≤5000):RB L n a (B+5000) (rlxB r l)∧LeB r (rlxB r l)∧(0≤gB r l.1→0≤gB (rlxB r l) l.2.1):=by
 unfold rlxB
 by_cases hc:0≤gB r l.1∧(gB r l.2.1<0∨gB r l.1+l.2.2<gB r l.2.1)
 ·rw [if_pos hc]
  have hg:=fun b=>gB_set (x:=gB r l.1+l.2.2) (by rw [h.len]; exact h2:l.2.1<r.length) b
  have hr1:=h.rng l.1
  refine ⟨⟨by simp [h.len],?_,fun b=> ?_,fun b hb hge=> ?_⟩,fun b hb=> ?_,fun _=> ?_⟩
  ·rw [hg]
   split
   ·rename_i e
    rw [←e] at hc
    have:=h.own
    omega
   ·exact h.own
  ·rw [hg]
   have:=h.rng b
   split<;>omega
  ·rw [hg] at hge
   split at hge
   ·rename_i e
    subst e
    exact (h.sound l.1 h1 hc.1).step (t:=l.2.2) hl
   ·exact h.sound b hb hge
  ·rw [hg]
   split<;>omega
  ·rw [hg,if_pos rfl]
   omega
 ·rw [if_neg hc]
  exact ⟨⟨h.len,h.own,fun b=>by have:=h.rng b; omega,h.sound⟩,fun b hb=>hb,fun h1=>by omega⟩
theorem RB.lines {L:List Ln} {n a:Nat} (hL:LnOK n L): ∀(K:List Ln) (B:Int) (r:List Int),(∀l∈K,l∈L)→0≤B→RB L n a B r→RB L n a (B+5000*K.length) (linesB r K)∧LeB r (linesB r K)∧ ∀l∈K,0≤gB r l.1→0≤gB (linesB r K) l.2.1
 | [],B,r,_,_,h=>⟨by simpa [linesB] using h,fun _ h=>h,fun l hl=>by cases hl⟩
 | l::K,B,r,hs,hB,h=>by
  have hl:=hL l (hs l (by simp))
  obtain ⟨h1,h2,h3⟩:=h.rlx hB (hs l (by simp)) hl.1 hl.2.1 hl.2.2
  obtain ⟨k1,k2,k3⟩:=RB.lines hL K (B+5000) (rlxB r l) (fun x hx=>hs x (by simp [hx])) (by omega) h1
  refine ⟨⟨k1.len,k1.own,fun b=> ?_,k1.sound⟩,fun b hb=>k2 b (h2 b hb),fun x hx hge=> ?_⟩
  ·have:=k1.rng b
   show -1≤gB (linesB (rlxB r l) K) b∧gB (linesB (rlxB r l) K) b≤_
   simp only [List.length_cons]
   omega
  ·rcases List.mem_cons.1 hx with rfl|hx
   ·exact k2 _ (h3 hge)
   ·exact k3 x hx (h2 _ hge)
theorem RB.rnds {L:List Ln} {n a:Nat} (hL:LnOK n L) (ha:a<n): ∀k:Nat,RB L n a (5000*(k*L.length:Nat)) (rndsB L (startB n a) k)
 | 0=>by simpa [rndsB] using RB.start L ha
 | k+1=>by
  have h:=RB.rnds hL ha k
  obtain ⟨h1,_,_⟩:=RB.lines hL L _ _ (fun _ h=>h) (by omega) h
  refine ⟨h1.len,h1.own,fun b=> ?_,h1.sound⟩
  have:=h1.rng b
  show -1≤gB (linesB _ L) b∧gB (linesB _ L) b≤_
  have e:(k+1)*L.length=k*L.length+L.length:=Nat.succ_mul _ _
  rw [e]
  omega
def cntB (n:Nat) (r:List Int):Nat:=((List.range n).filter fun b=>decide (0≤gB r b)).length
theorem cntB_le (n:Nat) (r:List Int):cntB n r≤n:=by
 unfold cntB
 have:=List.length_filter_le (fun b=>decide (0≤gB r b)) (List.range n)
 simpa using this
theorem filter_len_lt {α:Type} {p q:α→Bool}: ∀ {l:List α},(∀x∈l,p x=true→q x=true)→(∃x∈l,q x=true∧p x=false)→(l.filter p).length<(l.filter q).length
 | [],_,h=>by obtain ⟨x,hx,_⟩:=h; cases hx
 | y::l,h,h'=>by
  have hle:(l.filter p).length≤(l.filter q).length:=by
   clear h'
   induction l with
   | nil=>simp
   | cons z l ih =>
    have ih:=ih fun x hx=>h x (by simp at hx ⊢; rcases hx with h|h<;>simp [h])
    have hz:=h z (by simp)
    rw [List.filter_cons,List.filter_cons]
    split
    ·rename_i hp
     rw [if_pos (hz hp)]
     simpa using ih
    ·split<;>simp<;>omega
  obtain ⟨x,hx,h1,h2⟩:=h'
  rw [List.filter_cons,List.filter_cons]
  rcases List.mem_cons.1 hx with rfl|hx
  ·rw [if_pos h1,if_neg (by rw [h2]; simp)]
   simp
   omega
  ·have ih:=filter_len_lt (l:=l) (fun z hz=>h z (by simp [hz])) ⟨x,hx,h1,h2⟩
   have hy:=h y (by simp)
   split
   ·rename_i hp
    rw [if_pos (hy hp)]
    simpa using ih
   ·split<;>simp<;>omega
def ClosedB (L:List Ln) (r:List Int):Prop:= ∀l∈L,0≤gB r l.1→0≤gB r l.2.1
theorem rnds_closed {L:List Ln} {n a:Nat} (hL:LnOK n L) (ha:a<n): ∀k:Nat,ClosedB L (rndsB L (startB n a) k)∨k+1≤cntB n (rndsB L (startB n a) k)
 | 0=>by
  right
  have h:=(RB.start L ha).own
  unfold cntB
  have:a∈(List.range n).filter fun b=>decide (0≤gB (startB n a) b):=List.mem_filter.2 ⟨List.mem_range.2 ha,by rw [h]; rfl⟩
  exact List.length_pos_of_mem this
 | k+1=>by
  have h:=RB.rnds hL ha k
  obtain ⟨_,h2,h3⟩:=RB.lines hL L _ _ (fun _ h=>h) (by omega) h
  by_cases hs: ∀b,b<n→0≤gB (linesB (rndsB L (startB n a) k) L) b→0≤gB (rndsB L (startB n a) k) b
  ·left
   intro l hl hge
   have:=hL l hl
   exact h3 l hl (hs l.1 this.1 hge)
  ·have hex: ∃b,b<n∧0≤gB (linesB (rndsB L (startB n a) k) L) b∧ ¬0≤gB (rndsB L (startB n a) k) b:=Classical.byContradiction fun hn=>hs fun b hb hge=>Classical.byContradiction fun h=>hn ⟨b,hb,hge,h⟩
   obtain ⟨b,hb,hge,hno⟩:=hex
   have hlt:cntB n (rndsB L (startB n a) k)<cntB n (rndsB L (startB n a) (k+1)):=filter_len_lt (fun x _ hx=>decide_eq_true (h2 x (of_decide_eq_true hx))) ⟨b,List.mem_range.2 hb,decide_eq_true hge,decide_eq_false hno⟩
   rcases rnds_closed hL ha k with hc|hc
   ·-- closed before:nothing new
    exfalso
    have hr:=(RB.lines hL L _ _ (fun _ h=>h) (by omega) h).1.sound b hb hge
    have hall: ∀c,ReachL L a c→0≤gB (rndsB L (startB n a) k) c:=fun c hc'=>by
     induction hc' with
     | refl=>rw [h.own]; exact Int.le_refl _
     | step _ hm ih=>exact hc _ hm ih
    exact hno (hall b hr)
   ·right
    omega
theorem rowB_ok {L:List Ln} {n a:Nat} (hL:LnOK n L) (ha:a<n):(rowB L n a).length=n∧(∀b,-1≤gB (rowB L n a) b∧gB (rowB L n a) b≤5000*(n*L.length:Nat))∧ ∀b,b<n→(gB (rowB L n a) b<0↔ ¬ReachL L a b):=by
 have h:=RB.rnds hL ha n
 refine ⟨h.len,h.rng,fun b hb=>⟨fun hn hr=> ?_,fun hn=>Classical.byContradiction fun hge=>hn (h.sound b hb (by show 0≤gB (rowB L n a) b; omega))⟩⟩
 have hc:ClosedB L (rowB L n a):=by
  rcases rnds_closed hL ha n with h|h
  ·exact h
  ·have:=cntB_le n (rndsB L (startB n a) n); omega
 have hall: ∀c,ReachL L a c→0≤gB (rowB L n a) c:=fun c hc'=>by
  induction hc' with
  | refl=>rw [show gB (rowB L n a) a=0 from h.own]; exact Int.le_refl _
  | step _ hm ih=>exact hc _ hm ih
 have:=hall b hr
 omega
structure Cal where
 zone:Int
 week:List Bool
 hol:List Int
structure Of where
 name:ByteArray
 op:Int
 cal:Int
 pock:Int
 pass:Int
 mins:Int
 codes:List ByteArray
structure Li where
 name:ByteArray
 frm:Int
 to:Int
 at_:Int
 trav:Int
 load:Int
structure Cla where
 name:ByteArray
 cut:Int
 del:Int
structure Net where
 cals:List Cal
 names:List ByteArray
 ops:List ByteArray
 offs:List Of
 lines:List Li
 classes:List Cla
def byteA (s:ByteArray) (i:Nat):Nat:=(s.data.getD i 0).toNat
structure CalOK (c:Cal):Prop where
 z1: -720≤c.zone
 z2:c.zone≤840
 wk:c.week.length=7
 few:c.hol.length≤40
 inc: ∀(i:Nat) (x y:Int),c.hol[i]?=some x→c.hol[i+1]?=some y→x<y
def isSm (b:Nat):Prop:=97≤b∧b≤122
def isDg (b:Nat):Prop:=48≤b∧b≤57
structure NameOK (keys:List ByteArray) (s:ByteArray):Prop where
 n1:1≤s.size
 n2:s.size≤16
 fst:isSm (byteA s 0)
 all: ∀i,i<s.size→isSm (byteA s i)∨isDg (byteA s i)∨byteA s i=95
 nokey:s ∉ keys
structure CodeOK (s:ByteArray):Prop where
 n1:1≤s.size
 n2:s.size≤8
 all: ∀i,i<s.size→(65≤byteA s i∧byteA s i≤90)∨isDg (byteA s i)
structure OfOK (N:Net) (o:Of):Prop where
 o1:0≤o.op
 o2:o.op<N.ops.length
 c1:0≤o.cal
 c2:o.cal<N.cals.length
 few:o.codes.length≤20
 codes: ∀c∈o.codes,CodeOK c
 p1:2≤o.pock
 p2:o.pock≤64
 q1:1≤o.pass
 q2:o.pass≤4
 m1:1≤o.mins
 m2:o.mins≤240
structure LiOK (N:Net) (l:Li):Prop where
 f1:0≤l.frm
 f2:l.frm<N.offs.length
 t1:0≤l.to
 t2:l.to<N.offs.length
 ne:l.frm≠l.to
 a1:0≤l.at_
 a2:l.at_≤1439
 r1:1≤l.trav
 r2:l.trav≤5000
 d1:1≤l.load
 d2:l.load≤40
structure ClaOK (c:Cla):Prop where
 c1:0≤c.cut
 c2:c.cut≤1439
 d1:0≤c.del
 d2:c.del≤1439
structure KindOK {α:Type} (keys:List ByteArray) (lim:Nat) (names:List ByteArray) (l:List α) (good:α→Prop):Prop where
 few:l.length≤lim
 name: ∀s∈names,NameOK keys s
 nodup:names.Nodup
 good: ∀x∈l,good x
structure ConsOK (keys:List ByteArray) (N:Net):Prop where
 len:N.names.length=N.cals.length
 cals:KindOK keys 6 N.names N.cals CalOK
 ops:KindOK keys 6 N.ops N.ops (fun _=>True)
 offs:KindOK keys 12 (N.offs.map (·.name)) N.offs (OfOK N)
 lines:KindOK keys 40 (N.lines.map (·.name)) N.lines (LiOK N)
 classes:KindOK keys 4 (N.classes.map (·.name)) N.classes ClaOK
def lnOf (N:Net):List Ln:=N.lines.map fun l=>(l.frm.toNat,l.to.toNat,l.trav)
structure SoundOK (keys:List ByteArray) (N:Net):Prop where
 cons:ConsOK keys N
 all: ∀a b,a<N.offs.length→b<N.offs.length→ReachL (lnOf N) a b
theorem ConsOK.ln {keys:List ByteArray} {N:Net} (h:ConsOK keys N):LnOK N.offs.length (lnOf N)∧N.offs.length≤12∧(lnOf N).length≤40:=by
 refine ⟨fun l hl=> ?_,h.offs.few,by unfold lnOf; rw [List.length_map]; exact h.lines.few⟩
 obtain ⟨x,hx,rfl⟩:=List.mem_map.1 hl
 have:=h.lines.good x hx
 have h1:=this.f1
 have h2:=this.f2
 have h3:=this.t1
 have h4:=this.t2
 exact ⟨by show x.frm.toNat<_; omega,by show x.to.toNat<_; omega,this.r1,this.r2⟩
theorem LnOK.more {n m:Nat} {L:List Ln} (h:LnOK n L) (hm:n≤m):LnOK m L:=fun l hl=>by
 have:=h l hl
 exact ⟨by omega,by omega,this.2.2⟩
def keys11:List ByteArray:= ["calendar", "operator", "office", "line", "class", "zone", "week", "holiday", "pockets", "passes", "minutes", "codes", "at", "travel", "load", "cut", "deliver"].map String.toUTF8
end Go.Ord
namespace Go.PF
open Go.RowKit Go.Ord
def calT:Ty Cal where
 n:=3
 rep:=fun F w cs c=> ∃u v,cs= [.int .i64 c.zone,u,v]∧I64 c.zone∧SL boolT F w u c.week∧SL intT F w v c.hol
 len:=fun _ _ _ _ h=>by obtain ⟨u,v,h,_⟩:=h; rw [h]; rfl
 mono:=fun _ _ _ _ _ hk h=>by obtain ⟨u,v,h,h1,h2,h3⟩:=h; exact ⟨u,v,h,h1,h2.mono hk,h3.mono hk⟩
 wider:=fun _ _ _ _ _ hF h=>by obtain ⟨u,v,h,h1,h2,h3⟩:=h; exact ⟨u,v,h,h1,h2.wider hF,h3.wider hF⟩
theorem calT_now:Ty.Now calT:=⟨by decide,fun F w cs e ⟨u,v,h,h1,h2,h3⟩=>⟨u,v,h,h1,h2.now boolT_now,h3.now intT_now⟩⟩
def ofT:Ty Of where
 n:=7
 rep:=fun F w cs o=> ∃v,cs= [.string o.name,.int .i64 o.op,.int .i64 o.cal,.int .i64 o.pock,.int .i64 o.pass,.int .i64 o.mins,v]∧o.name.size≤9223372036854775807∧I64 o.op∧I64 o.cal∧I64 o.pock∧I64 o.pass∧I64 o.mins∧SL strT F w v o.codes
 len:=fun _ _ _ _ h=>by obtain ⟨v,h,_⟩:=h; rw [h]; rfl
 mono:=fun _ _ _ _ _ hk h=>by obtain ⟨v,h,h1,h2,h3,h4,h5,h6,hs⟩:=h; exact ⟨v,h,h1,h2,h3,h4,h5,h6,hs.mono hk⟩
 wider:=fun _ _ _ _ _ hF h=>by obtain ⟨v,h,h1,h2,h3,h4,h5,h6,hs⟩:=h; exact ⟨v,h,h1,h2,h3,h4,h5,h6,hs.wider hF⟩
theorem ofT_now:Ty.Now ofT:=⟨by decide,fun F w cs e ⟨v,h,h1,h2,h3,h4,h5,h6,hs⟩=>⟨v,h,h1,h2,h3,h4,h5,h6,hs.now strT_now⟩⟩
def liV (l:Li):List Value:= [.string l.name,.int .i64 l.frm,.int .i64 l.to,.int .i64 l.at_,.int .i64 l.trav,.int .i64 l.load]
def liT:Ty Li where
 n:=6
 rep:=fun _ _ cs l=>cs=liV l∧l.name.size≤9223372036854775807∧I64 l.frm∧I64 l.to∧I64 l.at_∧I64 l.trav∧I64 l.load
 len:=fun _ _ _ _ h=>by rw [h.1]; rfl
 mono:=fun _ _ _ _ _ _ h=>h
 wider:=fun _ _ _ _ _ _ h=>h
theorem liT_now:Ty.Now liT:=⟨by decide,fun _ _ _ _ h=>h⟩
def claV (l:Cla):List Value:= [.string l.name,.int .i64 l.cut,.int .i64 l.del]
def claT:Ty Cla where
 n:=3
 rep:=fun _ _ cs l=>cs=claV l∧l.name.size≤9223372036854775807∧I64 l.cut∧I64 l.del
 len:=fun _ _ _ _ h=>by rw [h.1]; rfl
 mono:=fun _ _ _ _ _ _ h=>h
 wider:=fun _ _ _ _ _ _ h=>h
theorem claT_now:Ty.Now claT:=⟨by decide,fun _ _ _ _ h=>h⟩
structure NV where
 c:Value
 n:Value
 o:Value
 f:Value
 l:Value
 k:Value
def NV.cells (v:NV):List Value:= [v.c,v.n,v.o,v.f,v.l,v.k]
structure NetIn (F:Nat→Prop) (w:World) (v:NV) (N:Net):Prop where
 c:SL calT F w v.c N.cals
 n:SL strT F w v.n N.names
 o:SL strT F w v.o N.ops
 f:SL ofT F w v.f N.offs
 l:SL liT F w v.l N.lines
 k:SL claT F w v.k N.classes
theorem NetIn.below {F:Nat→Prop} {w w':World} {v:NV} {N:Net} (h:NetIn F w v N) (hb:Below w.heap.size w w'):NetIn F w' v N:=⟨h.c.below hb,h.n.below hb,h.o.below hb,h.f.below hb,h.l.below hb,h.k.below hb⟩
abbrev NetAt (w:World) (v:NV) (N:Net):Prop:=NetIn (fun k=>k<w.heap.size) w v N
theorem NetIn.now {F:Nat→Prop} {w:World} {v:NV} {N:Net} (h:NetIn F w v N):NetAt w v N:=⟨h.c.now calT_now,h.n.now strT_now,h.o.now strT_now,h.f.now ofT_now,h.l.now liT_now,h.k.now claT_now⟩
theorem NetIn.wider {F G:Nat→Prop} {w:World} {v:NV} {N:Net} (h:NetIn F w v N) (hF: ∀k,F k→G k):NetIn G w v N:=⟨h.c.wider hF,h.n.wider hF,h.o.wider hF,h.f.wider hF,h.l.wider hF,h.k.wider hF⟩
theorem net_step {w w':World} {v:NV} {N:Net} (h:NetAt w v N) (hb:Below w.heap.size w w'):NetAt w' v N:=⟨h.c.step calT_now hb,h.n.step strT_now hb,h.o.step strT_now hb,h.f.step ofT_now hb,h.l.step liT_now hb,h.k.step claT_now hb⟩
end Go.PF
namespace Go.Ord
variable {d:Dist}
def vis (o f t:Int):Ev:=⟨o,f,t,[]⟩
def ToO (d:Dist) (x:ET) (o τ:Int):Prop:=at2 d x.1.office.toNat o.toNat≠ -1∧at2 d x.1.office.toNat o.toNat≤τ-x.2
def FrO (d:Dist) (o τ:Int) (x:ET):Prop:=at2 d o.toNat x.1.office.toNat≠ -1∧at2 d o.toNat x.1.office.toNat≤x.2-τ
def PV (d:Dist) (rest:List Ev) (o τ:Int):Prop:=0≤τ∧τ≤1000000∧ ∃l:List ET,l.map (·.1)=rest∧HoldsN d l∧ ∀x∈l,ToO d x o τ∨FrO d o τ x
theorem poss_vis {rest:List Ev} {o f t:Int}:Poss d (rest++ [vis o f t])↔ ∃τ,f≤τ∧τ≤t∧PV d rest o τ:=by
 constructor
 ·rintro ⟨l,hl,h⟩
  obtain ⟨l1,l2,rfl,h1,h2⟩:=List.map_eq_append_iff.1 hl
  obtain ⟨y,rfl,hy⟩: ∃y,l2= [y]∧y.1=vis o f t:=by
   cases l2 with
   | nil=>simp at h2
   | cons y l2 =>
    simp at h2
    exact ⟨y,by rw [h2.2],h2.1⟩
  have he:=h.each y (by simp)
  rw [hy] at he
  obtain ⟨p1,_,p3⟩:=List.pairwise_append.1 h.two
  refine ⟨y.2,he.2.2.1,he.2.2.2,he.1,he.2.1,l1,h1,⟨fun x hx=>h.each x (by simp [hx]),p1⟩,fun x hx=> ?_⟩
  have:=p3 x hx y (by simp)
  unfold Aft at this
  rw [hy] at this
  exact this
 ·rintro ⟨τ,h1,h2,h3,h4,l,rfl,hl,hx⟩
  refine ⟨l++ [(vis o f t,τ)],by simp,⟨fun x hm=> ?_,List.pairwise_append.2 ⟨hl.two,List.pairwise_singleton _ _,fun x hm y hy=> ?_⟩⟩⟩
  ·rcases List.mem_append.1 hm with hm|hm
   ·exact hl.each x hm
   ·rw [List.mem_singleton] at hm
    subst hm
    exact ⟨h3,h4,h1,h2⟩
  ·rw [List.mem_singleton] at hy
   subst hy
   exact hx x hm
theorem HoldsN.sub {l l':List ET} (h:HoldsN d l) (hs:l'.Sublist l):HoldsN d l':=⟨fun x hx=>h.each x (hs.subset hx),h.two.sublist hs⟩
theorem map_sub {α β:Type} {f:α→β}: ∀ {l:List α} {m:List β},m.Sublist (l.map f)→ ∃l':List α,l'.Sublist l∧l'.map f=m
 | [],m,h=>⟨[],List.Sublist.refl _,by simp at h; rw [h]; rfl⟩
 | x::l,m,h=>by
  rw [List.map_cons] at h
  cases h with
  | cons _ h =>
   obtain ⟨l',h1,h2⟩:=map_sub h
   exact ⟨l',h1.cons _,h2⟩
  | cons_cons _ h =>
   obtain ⟨l',h1,h2⟩:=map_sub h
   exact ⟨x::l',h1.cons_cons _,by simp [h2]⟩
theorem PV.sub {rest rest':List Ev} {o τ:Int} (h:PV d rest o τ) (hs:rest'.Sublist rest):PV d rest' o τ:=by
 obtain ⟨h1,h2,l,rfl,hl,hx⟩:=h
 obtain ⟨l',k1,k2⟩:=map_sub hs
 exact ⟨h1,h2,l',k2,hl.sub k1,fun x hm=>hx x (k1.subset hm)⟩
theorem map_perm {α β:Type} {f:α→β}: ∀ {m:List β} {l:List α},(l.map f).Perm m→ ∃l':List α,l'.Perm l∧l'.map f=m
 | [],l,h=>by
  have:l= []:=by have:=h.length_eq; simp at this; exact this
  subst this
  exact ⟨[],List.Perm.refl _,rfl⟩
 | e::m,l,h=>by
  have hm:e∈l.map f:=h.mem_iff.2 (by simp)
  obtain ⟨x,hx,rfl⟩:=List.mem_map.1 hm
  obtain ⟨pre,post,rfl⟩:=List.append_of_mem hx
  have h4:((pre++post).map f).Perm m:=by
   have q:((pre++x::post).map f).Perm (f x::(pre++post).map f):=(List.perm_middle (a:=x) (l₁:=pre) (l₂:=post)).map f
   exact List.Perm.cons_inv (q.symm.trans h)
  obtain ⟨l',k1,k2⟩:=map_perm h4
  exact ⟨x::l',(k1.cons x).trans List.perm_middle.symm,by simp [k2]⟩
theorem HoldsN.perm {l l':List ET} (h:HoldsN d l) (hp:l'.Perm l):HoldsN d l':=⟨fun x hx=>h.each x (hp.mem_iff.1 hx),pairwise_or hp.symm h.two⟩
theorem PV.perm {rest rest':List Ev} {o τ:Int} (h:PV d rest o τ) (hp:rest.Perm rest'):PV d rest' o τ:=by
 obtain ⟨h1,h2,l,rfl,hl,hx⟩:=h
 obtain ⟨l',k1,k2⟩:=map_perm hp
 exact ⟨h1,h2,l',k2,hl.perm k1,fun x hm=>hx x (k1.mem_iff.1 hm)⟩
theorem PossJ.sub {rest rest':List Ev} {a b:Ev} {g:Int} (h:PossJ d rest a b g) (hs:rest'.Sublist rest):PossJ d rest' a b g:=by
 obtain ⟨h0,l,t,rfl,h1,h2,h3,h4⟩:=h
 obtain ⟨l',k1,k2⟩:=map_sub hs
 exact ⟨h0,l',t,k2,h1.sub k1,h2,h3,fun x hm=>h4 x (k1.subset hm)⟩
theorem PossJ.perm {rest rest':List Ev} {a b:Ev} {g:Int} (h:PossJ d rest a b g) (hp:rest.Perm rest'):PossJ d rest' a b g:=by
 obtain ⟨h0,l,t,rfl,h1,h2,h3,h4⟩:=h
 obtain ⟨l',k1,k2⟩:=map_perm hp
 exact ⟨h0,l',t,k2,h1.perm k1,h2,h3,fun x hm=>h4 x (k1.mem_iff.1 hm)⟩
end Go.Ord
namespace Go.Proofs.YtffjgpoadfkjlaaGreatDoor
open Go.PF Go.RowKit Go.Ord
variable {i:Nat} {t:Int}
abbrev Spt:=Int×Int
def restsS (l:List Ev) (ws:List (List Int)):List (List Ev):=ws.map (restS l)
def lvE (l:Li) (t:Int):Ev:=⟨l.frm,t-l.trav+1,t-1,[]⟩
def arE (l:Li) (t:Int):Ev:=⟨l.to,t+1,t+l.trav-1,[]⟩
inductive Knd
 | at (o f t:Int)
 | on (l:Li) (t:Int)
def Knd.more:Knd→List Ev
 | .at o f t=> [vis o f t]
 | .on l t=> [lvE l t,arE l t]
noncomputable def Knd.b (d:Dist) (k:Knd) (r:List Ev):Bool:=match k with
 | .at o f t=>dec (Fitted d (r++ [vis o f t]))
 | .on l t=>dec (FittedJ d (r++ [lvE l t,arE l t]) r (lvE l t) (arE l t) l.trav)
noncomputable def canB (d:Dist) (rs:List (List Ev)) (k:Knd):Bool:=rs.any (k.b d)
def offPl (n:Nat) (t:Int):List (Spt×Knd):=(List.range n).map fun i:Nat=>(((i:Int),-1),.at (i:Int) t t)
def linPl (ls:List Li) (t:Int):List (Spt×Knd):=ls.mapIdx fun i l=>((-1,(i:Int)),.on l t)
def plsS (N:Net) (t:Int):List (Spt×Knd):=offPl N.offs.length t++linPl N.lines t
noncomputable def spotsS (N:Net) (d:Dist) (rs:List (List Ev)) (t:Int):List Spt:=((plsS N t).filter fun p=>canB d rs p.2).map (·.1)
structure PossOK (N:Net) (d:Dist) (l:List Ev) (nw:Nat) (t:Int):Prop where
 sound:SoundOK keys11 N
 fit:FitW d l nw
 same:d.length=N.offs.length
 t0:0≤t
 t1:t≤1000000
noncomputable def possS (N:Net) (d:Dist) (l:List Ev) (ws:List (List Int)) (t:Int):List Spt:=if dec (PossOK N d l ws.length t)=true then spotsS N d (restsS l ws) t else []
noncomputable def reachS (d:Dist) (l:List Ev) (ws:List (List Int)) (o f t:Int):Bool:=dec (FitW d l ws.length)&&decide (0≤o∧o<(d.length:Int))&&canB d (restsS l ws) (.at o f t)
def isSeen (o by_:Int) (e:Ev):Bool:=decide (e.office=o∧e.high≤by_)
def seenS (l:List Ev) (ws:List (List Int)) (o by_:Int):Bool:=decide (0<ws.length)&&ws.all fun S=>(restS l S).any (isSeen o by_)
theorem offPl_len (n:Nat) (t:Int):(offPl n t).length=n:=by simp [offPl]
theorem linPl_len (ls:List Li) (t:Int):(linPl ls t).length=ls.length:=by simp [linPl]
theorem offPl_at {n:Nat} (h:i<n):(offPl n t)[i]?=some (((i:Int),-1),.at i t t):=by simp [offPl,h]
theorem linPl_at {ls:List Li} {l:Li} (h:ls[i]?=some l):(linPl ls t)[i]?=some ((-1,(i:Int)),.on l t):=by simp [linPl,List.getElem?_mapIdx,h]
theorem plsS_len (N:Net) (t:Int):(plsS N t).length=N.offs.length+N.lines.length:=by simp [plsS,offPl_len,linPl_len]
theorem plsS_off {N:Net} (h:i<N.offs.length):(plsS N t)[i]?=some (((i:Int),-1),.at i t t):=by
 unfold plsS
 rw [List.getElem?_append_left (by rw [offPl_len]; exact h),offPl_at h]
theorem plsS_lin {N:Net} {l:Li} (h:N.lines[i]?=some l):(plsS N t)[N.offs.length+i]?=some ((-1,(i:Int)),.on l t):=by
 unfold plsS
 rw [List.getElem?_append_right (by rw [offPl_len]; omega),offPl_len,show N.offs.length+i-N.offs.length=i by omega,linPl_at h]
def sptT:Ty Spt where
 n:=2
 rep:=fun _ _ cs s=>cs= [.int .i64 s.1,.int .i64 s.2]∧I64 s.1∧I64 s.2
 len:=fun _ _ _ _ h=>by rw [h.1]; rfl
 mono:=fun _ _ _ _ _ _ h=>h
 wider:=fun _ _ _ _ _ _ h=>h
theorem sptT_now:Ty.Now sptT:=⟨by decide,fun _ _ _ _ h=>h⟩
def spV (s:Spt):List Value:= [.int .i64 s.1,.int .i64 s.2]
abbrev SPs (w:World) (v:Value) (l:List Spt):Prop:=SL sptT (fun k=>k<w.heap.size) w v l
theorem sps_step {w w':World} {v:Value} {l:List Spt} (h:SPs w v l) (hb:Below w.heap.size w w'):SPs w' v l:=h.step sptT_now hb
theorem SPs.get {F:Nat→Prop} {w:World} {ad:Addr} {n cap:Nat} {l:List Spt} (h:SL sptT F w (.slice (some ad) n cap) l) {s:Spt} (hx:l[i]?=some s) :
  (∀j u,(spV s)[j]?=some u→w.cell? ((ad.add ((i:Int).toNat*2)).add j)=some u)∧I64 s.1∧I64 s.2:=by
 obtain ⟨ad',cs,h1,_,⟨rfl,g1,g2⟩,hc⟩:=h.at hx
 cases h1
 exact ⟨hc,g1,g2⟩
end Go.Proofs.YtffjgpoadfkjlaaGreatDoor
namespace Go.PF
open Go.RowKit
section
variable {P:Program} {w:World}
end
section
variable {P:Program} {r:Option Nat} {Q:Exit→Act→World→Prop} {N:Nat} {ds:List Deferred} {ops rest:List Oper} {E:Env} {w:World}
variable {d:Option Tmp} {ty:TypeId} {pos:String} {af:Array Edge} {gu:Option (Nat×Bool)} {s x:Operand}
theorem X.capSlice {ρ:Operand→Value} {A:Option Addr} {l c:Nat} {t e:TypeId} (ht:P.underlying t=some (.slice e)) (hx:ρ x= .slice A l c):(execOp ρ ⟨d,.call ⟨.builtin .cap,#[x],#[t]⟩,ty,pos,af,gu⟩).run P w= .ok (.value (.int .i64 (c:Int))) w:=by simp [execOp,resolve,Go.invoke,Go.builtin,hx,Builtin.cap_,run_underlying ht,goInt]
theorem TW.capSlice {cx G:Option Bool} {A:Option Addr} {l c:Nat} {t e:TypeId} (hg:gd ops E gu=some G) (hd:okDst N d=true) (ht:P.underlying t=some (.slice e)) (hx:ev E x=some (cx,.slice A l c)) (ix:Cnd G→Cnd cx)
  (next:TW P r Q N ds ops rest (ins E d G (.int .i64 (c:Int))) w):TW P r Q N ds ops (⟨d,.call ⟨.builtin .cap,#[x],#[t]⟩,ty,pos,af,gu⟩::rest) E w :=
 TW.val hg hd rfl (fun hG _ ha=>X.capSlice ht (ha.eval hx (ix hG))) next
end
end Go.PF
namespace Go.PF
open Go.RowKit
section
variable {P:Program} {w:World}
theorem run_append_nilZn (t ti ty e:TypeId) (i:TypeInfo) (z:Value) (ht:P.underlying t=some (.slice e)) (hti:P.underlying ti=some (.int .i64)) (hi:P.info? e=some i) (hz:i.zero=some z) (hs:0<i.size)
  (n:Nat) (h0:0<n) (h63:(n:Int)≤9223372036854775807) (h48:n*i.bytes≤281474976710656) :
  (Builtin.append_ #[t,ti] ty #[.slice none 0 0,.int .i64 (n:Int)]).run P w =
   .ok (.slice (some ⟨w.heap.size,0,none⟩) n (grownCap w n 0 e)) (w.drew.alloc (.cells (Builtin.zeroCells z.cells n++Builtin.zeroCells z.cells (grownCap w n 0 e-n)) e)):=by
 have hn:n≠0:=by omega
 have h63': ¬(9223372036854775807<(n:Int)):=by omega
 have hw:IntKind.i64.wrap (n:Int)=n:=wrap_fits (by omega)
 have hneg: ¬((n:Int)<0):=by omega
 have h48a: ¬(281474976710656<(n:Int)*(i.bytes:Int)):=by
  have:((n*i.bytes:Nat):Int)≤281474976710656:=by omega
  rw [Int.natCast_mul] at this
  omega
 have hle: ¬((n:Int)≤0):=by omega
 have hs0: ¬i.size=0:=by omega
 have hns: ¬n*i.size=0:=Nat.mul_ne_zero hn hs0
 have h48': ¬(281474976710656<Builtin.nextslicecap n 0*i.bytes):=by rw [nextslicecap_zero h0]; omega
 simp [Builtin.append_,run_underlying ht,run_underlying hti,sizeOf,typeInfo,zeroValue,hi,hz,hs0,hns,hw,hneg,h48a,hle,asInt,asIntOf,hn,h63',h48',Question.forced,run_firstCells_none,newRow,grownCap]
end
section
variable {P:Program} {r:Option Nat} {Q:Exit→Act→World→Prop} {N:Nat} {ds:List Deferred} {ops rest:List Oper} {E:Env} {w:World}
variable {d:Option Tmp} {ty:TypeId} {pos:String} {af:Array Edge} {gu:Option (Nat×Bool)} {s x:Operand}
theorem TW.appendZn {t ti e:TypeId} {sz bytes n:Nat} (hg:gu=none) (hd:okDst N d=true) (hok:growOK P t e sz bytes=true) (hti:P.underlying ti=some (.int .i64)) (hs:ev E s=some (none,.slice none 0 0)) (hx:ev E x=some (none,.int .i64 (n:Int))) (h0:0<n) (hn:n≤1000000000) (hb:bytes≤1000) (hsz:0<sz)
  (next: ∀g cap w',n≤cap→OwnS w' e sz (.slice (some ⟨g,0,none⟩) 0 cap) 0 []→w.heap.size=g→Below w.heap.size w w'→TW P r Q N ds ops rest (ins E d none (.slice (some ⟨g,0,none⟩) n cap)) w') :
  TW P r Q N ds ops (⟨d,.call ⟨.builtin .append,#[s,x],#[t,ti]⟩,ty,pos,af,gu⟩::rest) E w:=by
 obtain ⟨i,z,hu,hi,hz0,hsize,hby,hzs,_⟩:=growOK_spec hok
 have hmul:n*i.bytes≤281474976710656:=by
  rw [hby]
  exact Nat.le_trans (Nat.mul_le_mul hn hb) (by decide)
 have hr:=run_append_nilZn (P:=P) (w:=w) t ti ty e i z hu hti hi hz0 (by omega) n h0 (by omega) hmul
 have hge:=grownCap_ge w n 0 e
 have hle:=grownCap_le_maxLen w n 0 e (by simp only [maxLen]; omega)
 refine TW.eff (v:= .slice (some ⟨w.heap.size,0,none⟩) n (grownCap w n 0 e)) (w':=w.drew.alloc (.cells (Builtin.zeroCells z.cells n++Builtin.zeroCells z.cells (grownCap w n 0 e-n)) e)) hg hd rfl (fun a ha=> ?_) ?_
 ·simp only [execOp,resolve,Go.invoke,Go.builtin,Sem.run_bind,Sem.run_pure,Result.andThen_ok,List.map_toArray,List.map_cons,List.map_nil,ha.eval hs trivial,ha.eval hx trivial,hr]
 ·refine next _ _ _ hge ⟨by simp,.inr ⟨w.heap.size,grownCap w n 0 e,_,rfl,Nat.zero_le _,heap_alloc_new w.drew _,Nat.zero_le _,hle,?_,by simp⟩⟩ rfl ?_
  ·simp only [Builtin.zeroCells,Array.size_append,Array.size_map,Array.size_range,hzs]
   rw [←Nat.add_mul,Nat.add_sub_cancel' hge]
  ·exact ((Below.refl _ _).trans ⟨rfl,rfl,rfl,Nat.le_refl _,fun _ _=>rfl⟩:Below w.heap.size w w.drew).alloc (Nat.le_refl _) _
end
end Go.PF
namespace Go.Proofs.YtffjgpoadfkjlaaGreatDoor
open Go.PF Go.RowKit Go.Ord
attribute [local irreducible] TW CW KW DW
variable {w:World} {v:Value}
theorem litEv {g:Nat} {t:TypeId} {n:Nat} (ps:List (List Value×Ev)) (h:Blk w g t (ps.flatMap (·.1))) (hn:n=ps.length) (hp: ∀p∈ps,evT.rep (fun k=>k<w.heap.size) w p.1 p.2) (hs:ps.length≤1000000):SE w (.slice (some ⟨g,0,none⟩) n n) (ps.map (·.2)):=by
 subst hn
 exact OwnS.toSLp (T:=evT) (F:=fun k=>k<w.heap.size) (w:=w) (e:=t) (v:= .slice (some ⟨g,0,none⟩) ps.length ps.length) (n:=ps.length) ps hp (by decide) (OwnS.of_blk h (flat_len (fun p:List Value×Ev=>p.1) 4 ps (fun p hp'=>evT.len _ _ _ _ (hp p hp'))) (by omega)) rfl (fun q hq=>by simp [Value.ownBlock] at hq; subst hq; exact h.lt) (by omega)
theorem evT_nb:Ty.Nb evT:=⟨by decide,fun F w cs e ⟨v,h,h1,h2,h3,hs⟩=>⟨v,h,h1,h2,h3,hs.nb intT_nb⟩⟩
theorem evT_one:Ty.One evT:=fun _ _ _ _ ⟨v,h,_,_,_,A,cap,hv,_⟩ u hu=>by
 rw [h] at hu
 simp at hu
 rcases hu with rfl|rfl|rfl|rfl
 ·rfl
 ·rfl
 ·rfl
 ·rw [hv]; rfl
abbrev SRB (b:Nat) (w:World) (v:Value) (rs:List (List Ev)):Prop:=SL (sliceT evT) (fun k=>b≤k∧k<w.heap.size) w v rs
abbrev SRs (w:World) (v:Value) (rs:List (List Ev)):Prop:=SL (sliceT evT) (fun k=>k<w.heap.size) w v rs
theorem srs_step {w':World} {l:List (List Ev)} (h:SRs w v l) (hb:Below w.heap.size w w'):SRs w' v l:=h.step (sliceT_now evT_now) hb
theorem restsOf_c {u:Value} {l:List Ev} {ws:List (List Int)} {F:Nat→Prop} (hl:SE w v l) (hS:SL (sliceT intT) F w u ws) (hsm:l.length≤1000000) (hne: ∀e∈l,e.needs.length≤1000000) (hw:ws.length≤1000000) :
  Gives Tryz.prog 29 #[v,u] w fun x w'=>Below w.heap.size w w'∧SRB w.heap.size w' x (restsS l ws):=by
 obtain ⟨B,bcap,rfl,_⟩:=hS.form
 refine gv (f:=29) ?_
 refine rnT ?_
 refine CW.lp [0,8,9] (fun x:Nat×Value×List (List Value×List Ev)=> [(5,none,x.2.1),(10,none,.int .i64 (x.1:Int))])
  (fun x W=>x.1≤ws.length∧Below w.heap.size w W∧RowB (sliceT evT) W 31 w.heap.size x.2.1 x.2.2∧x.2.2.map (·.2)=restsS l (ws.take x.1)) (fun x=>ws.length-x.1) (0,.slice none 0 0,[]) ⟨Nat.zero_le _,Below.refl _ _,RowB.nil _ _ _ _,rfl⟩ ?_
 rintro ⟨k,rv,ps⟩ W ⟨hk,hB,hR,hmap⟩
 dsimp only at hk hR hmap
 have hpl:ps.length=k:=by
  have:=congrArg List.length hmap
  simp [restsS] at this
  omega
 refine rnT ?_
 refine CW.condP rfl (fun hlt=> ?_) (fun hge=> ?_)
 ·have hSW:=hS.below hB
  obtain ⟨ad,rfl⟩:=hSW.addr (by omega)
  obtain ⟨S,hS1,hSm⟩:=getx (l:=ws) (k:=k) (by omega)
  obtain ⟨sv,hcell,hrow⟩:=hSW.row hS1
  refine rnT ?_
  refine TW.ld rfl hcell ?_
  refine rnT ?_
  refine TW.cl rfl (restB_c (se_step hl hB) hrow hsm hne) ?_
  rintro rv1 w1 ⟨b1,h1⟩
  obtain ⟨A1,cap1,rfl,_⟩:=h1.form
  refine TW.buildSlice 31 _ rfl rfl rfl eo84 (Args.cons rfl ct Args.nil) rfl rfl rfl rfl rfl ?_
  rintro g2 w2 f2
  have hR2:=(hR.step b1).step f2.below
  have hB2:=(hB.step b1).step f2.below
  have s2:=(b1.step f2.below).size
  refine TW.append [.slice A1 (restS l S).length cap1] rfl rfl go84 rfl hR2.1 rfl rfl (fun j v hj=>⟨⟨g2,0,none⟩,rfl,f2.blk.fld hj⟩) (fun v hv=>by simp at hv; subst hv; rfl) (by omega) (by omega) ?_
  rintro rv' w3 hO3 hg3 hn3
  refine rnT ?_
  have hR3:RowB (sliceT evT) w3 31 w.heap.size rv' (ps++ [([.slice A1 (restS l S).length cap1],restS l S)]):=hR2.app hO3 hg3 hn3 ⟨_,rfl,((h1.below f2.below).nb evT_nb).wider fun q hq=>⟨Nat.le_trans hB.size hq.1.1,hq.2,fun e=>by have:=hR.1.lt e; have:=hq.1.1; omega⟩⟩ hB2.size
  refine KW.rd (k+1,rv',ps++ [([.slice A1 (restS l S).length cap1],restS l S)]) ⟨by show k+1≤ws.length; omega,hB2.grown hg3 hB2.size hR.2.2,hR3,?_⟩
  show List.map Prod.snd (ps++ [_])=restsS l (ws.take (k+1))
  unfold restsS at hmap ⊢
  rw [List.map_append,hmap,List.take_add_one,hS1]
  simp
 ·refine rnT ?_
  refine rt1 rfl ⟨hB,?_⟩
  have:=hR.sl (by decide)
  rw [hmap,List.take_of_length_le (by omega)] at this
  exact this
theorem growE_c {n:Nat} (hn:n≤1000000000):Gives Tryz.prog 123 #[.slice none 0 0,.int .i64 (n:Int)] w fun u w'=>Below w.heap.size w w'∧OwnS w' 39 4 u 0 []∧ ∀g,u.ownBlock=some g→w.heap.size≤g:=by
 refine gv (f:=123) ?_
 refine rnT ?_
 refine CW.condP rfl (fun hneg=> ?_) (fun hpos=> ?_)
 ·exfalso
  omega
 refine rnT ?_
 refine TW.capSlice rfl rfl Tryz.underlying31 rfl ct ?_
 refine rnT ?_
 refine CW.pk [0,1,4,16] rfl ?_
 refine CW.condP rfl (fun hgt=> ?_) (fun hle=> ?_)
 ·refine rnT ?_
  refine TW.capSlice rfl rfl Tryz.underlying31 rfl ct ?_
  refine TW.v V.sliceH rfl ⟨ct,ct,trivial⟩ (fun _=>by (try dsimp only); omega) ?_
  refine rnT ?_
  rw [show ((n:Int)-((((0:Nat):Int))-((0:Nat):Int)))=(n:Int) by omega]
  refine TW.appendZn rfl rfl go31 Tryz.underlying3 rfl rfl (by omega) hn (by decide) (by decide) ?_
  rintro g cap w1 hcap hO hg hb
  refine rnT ?_
  refine TW.v V.sliceH rfl ⟨ct,ct,trivial⟩ (fun _=>by (try dsimp only); omega) ?_
  refine rnT ?_
  refine rt1 rfl ⟨hb,hO,fun q hq=>by simp [Value.ownBlock] at hq; omega⟩
 ·refine rnT ?_
  refine rt1 rfl ⟨Below.refl _ _,OwnS.nil _ _ _,fun g hg=>by simp [Value.ownBlock] at hg⟩
theorem concatE_c {a b:List Ev} (hv:SL (sliceT evT) (fun k=>k<w.heap.size) w v [a,b]) (ha:a.length≤1000000) (hb:b.length≤1000000) :
  Gives Tryz.prog 78 #[v] w fun u w'=>Below w.heap.size w w'∧SE w' u (a++b):=by
 obtain ⟨A,cap,rfl,_⟩:=hv.form
 obtain ⟨ad,rfl⟩:=hv.addr (by simp)
 have hsum: ∀k,(([a,b].take k).flatten).length≤2000000:=fun k=>by
  rcases k with _|_|k<;>simp<;>omega
 refine gv (f:=78) ?_
 refine rnT ?_
 refine CW.lp [0,9,10] (fun k:Nat=> [(3,none,.int .i64 ((([a,b].take k).flatten).length:Int)),(11,none,.int .i64 (k:Int))])
  (fun k W=>k≤2∧Below w.heap.size w W) (fun k=>2-k) 0 ⟨by omega,Below.refl _ _⟩ ?_
 have h2l: [a,b].length=2:=rfl
 rintro k W ⟨hk,hB⟩
 have hsk:=hsum k
 refine rnT ?_
 refine CW.condP rfl (fun hlt=> ?_) (fun hge=> ?_)
 ·have hk2:k< [a,b].length:=by simp; omega
  obtain ⟨r,hr⟩: ∃r,[a,b][k]?=some r:=⟨_,List.getElem?_eq_getElem hk2⟩
  have hrl:r.length≤1000000:=by
   have:=List.mem_of_getElem? hr
   simp at this
   rcases this with rfl|rfl<;>assumption
  obtain ⟨rv,hcell,hrow⟩:=(hv.below hB).row hr
  obtain ⟨R,rcap,rfl,_⟩:=hrow.form
  refine rnT ?_
  refine TW.ld rfl hcell ?_
  refine rnT ?_
  refine CW.pk [0,3,5,9,10,11,20] rfl ?_
  refine CW.condP rfl (fun hneg=> ?_) (fun hpos=> ?_)
  ·exfalso
   omega
  ·refine rnT ?_
   refine KW.rd (k+1) ⟨by omega,hB⟩ (hp:= ?_)
   rw [List.take_add_one,hr]
   simp only [Option.toList_some,List.flatten_append,List.length_append,List.flatten_cons,List.flatten_nil,List.append_nil,Int.natCast_add]
   rfl
 have hke:k=2:=by omega
 subst hke
 refine rnT ?_
 refine TW.cl rfl (growE_c (n:=(([a,b].take 2).flatten).length) (by omega)) ?_
 rintro u1 w1 ⟨c1,hO1,ho1⟩
 have hB1:=hB.step c1
 have hs1:=hB.size
 refine rnT ?_
 refine CW.lp [25,26] (fun x:Nat×Value×List (List Value×Ev)=> [(6,none,x.2.1),(27,none,.int .i64 (x.1:Int))])
  (fun x W=>x.1≤2∧Below w.heap.size w W∧OwnS W 39 4 x.2.1 x.2.2.length (x.2.2.flatMap (·.1))∧(∀g,x.2.1.ownBlock=some g→w.heap.size≤g)∧x.2.2.map (·.2)=([a,b].take x.1).flatten∧ ∀p∈x.2.2,evT.rep (fun k=>k<w.heap.size) w p.1 p.2) (fun x=>2-x.1) (0,u1,[]) ⟨by show 0≤2; omega,hB1,hO1,fun g hg=>by have:=ho1 g hg; omega,rfl,fun p hp=>by cases hp⟩ ?_
 rintro ⟨k,ov,ps⟩ W ⟨hk,hB2,hO,hob,hmap,hrep⟩
 dsimp only at hk hO hob hmap hrep
 have hsk:=hsum k
 have hpl:ps.length≤2000000:=by
  have:=congrArg List.length hmap
  simp only [List.length_map] at this
  omega
 refine rnT ?_
 refine CW.condP rfl (fun hlt=> ?_) (fun hge=> ?_)
 ·have hk2:k< [a,b].length:=by simp; omega
  obtain ⟨r,hr⟩: ∃r,[a,b][k]?=some r:=⟨_,List.getElem?_eq_getElem hk2⟩
  have hrl:r.length≤1000000:=by
   have:=List.mem_of_getElem? hr
   simp at this
   rcases this with rfl|rfl<;>assumption
  obtain ⟨rv,hcell0,hrow0⟩:=hv.row hr
  have hcell:=(hB2.cell (block_lt_of_cell hcell0)).trans hcell0
  obtain ⟨R,rcap,rfl,_⟩:=hrow0.form
  obtain ⟨qs,hq1,hq2,hq3,hq4⟩:=hrow0.flat (by decide)
  refine rnT ?_
  refine TW.ld rfl hcell ?_
  refine rnT ?_
  refine TW.append (qs.flatMap (·.1)) rfl rfl go31 rfl hO rfl (by rw [hq3]; rfl) (fun j u hj=>by
   obtain ⟨ad',h1,h2⟩:=hq4 j u hj
   exact ⟨ad',h1,(hB2.cell (block_lt_of_cell h2)).trans h2⟩) (one_flat evT_one hq2) (by omega) (by omega) ?_
  rintro ov' w2 o2 hg2 hn2
  refine rnT ?_
  have hql:qs.length=r.length:=by rw [←hq1]; simp
  refine KW.rd (k+1,ov',ps++qs) ⟨by show k+1≤2; omega,hB2.grown hg2 hB2.size hob,?_,fun g hg=> ?_,?_,fun p hp=> ?_⟩
  ·show OwnS w2 _ 4 ov' (ps++qs).length ((ps++qs).flatMap (·.1))
   rw [List.flatMap_append,List.length_append,hql]
   exact o2
  ·rcases hn2 with h|h
   ·exact hob g (by rw [←h]; exact hg)
   ·rw [h] at hg; cases hg; exact hB2.size
  ·show (ps++qs).map (·.2)=([a,b].take (k+1)).flatten
   rw [List.map_append,hmap,hq1,List.take_add_one,hr]
   simp
  ·rcases List.mem_append.1 hp with h|h
   ·exact hrep p h
   ·exact hq2 p h
 ·have hke:k=2:=by omega
  subst hke
  have e:([a,b].take 2).flatten=a++b:=by simp
  rw [e] at hmap
  refine rnT ?_
  refine rt1 rfl ⟨hB2,?_⟩
  have:=OwnS.toSLn (by decide) hB2 hrep hO rfl (by omega)
  rw [hmap] at this
  exact this.wider fun q hq=>hq.elim (fun h=>by have:=hB2.size; omega) (fun h=>hO.lt h)
def FormR (K:Knd) (r:List Ev) (W:World) (ev lg:Value):Prop:=match K with
 | .at o f t=>SE W ev (r++ [vis o f t])∧lg= .slice none 0 0
 | .on l t=>SE W ev (r++ [lvE l t,arE l t])∧ ∃la lc,lg= .slice (some la) 1 lc∧LegAt W la r.length l.trav
def FormOK (w:World) (k:FuncId) (caps:List Value) (K:Knd):Prop:= ∀(r:List Ev) (rv:Value) (w':World),Below w.heap.size w w'→SE w' rv r→r.length≤14 →
 Gives Tryz.prog k (rv::caps).toArray w' fun u w''=>Below w'.heap.size w' w''∧ ∃ev lg,u= .tuple #[ev,lg]∧FormR K r w'' ev lg
theorem FormOK.step {w w':World} {k:FuncId} {caps:List Value} {K:Knd} (h:FormOK w k caps K) (hb:Below w.heap.size w w'):FormOK w' k caps K:=fun r rv w2 h2=>h r rv w2 (hb.step h2)
def Knd.OK:Knd→Prop
 | .at o f t=>I64 o∧I64 f∧I64 t
 | .on l t=>I64 l.frm∧I64 l.to∧0≤l.trav∧l.trav≤1000000∧0≤t∧t≤1000000
theorem visit1_c {g1 g2 g3:Nat} {o f t:Int} (h1:Blk w g1 3 [.int .i64 o]) (h2:Blk w g2 3 [.int .i64 f]) (h3:Blk w g3 3 [.int .i64 t]) (hI:Knd.OK (.at o f t)) :
  FormOK w 77 [.pointer (some ⟨g1,0,none⟩),.pointer (some ⟨g2,0,none⟩),.pointer (some ⟨g3,0,none⟩)] (.at o f t):=by
 intro r rv w1 hb1 hr hlen
 obtain ⟨R,rcap,rfl,_⟩:=hr.form
 refine gv (f:=77) ?_
 refine rnT ?_
 refine TW.ld rfl ((h1.next hb1).cell 0) ?_
 refine TW.ld rfl ((h2.next hb1).cell 0) ?_
 refine TW.ld rfl ((h3.next hb1).cell 0) ?_
 refine TW.build [0,1,2] _ [.int .i64 o,.int .i64 f,.int .i64 t,.slice none 0 0] rfl rfl rfl (Args.cons rfl ct (Args.cons rfl ct (Args.cons rfl ct Args.nil))) (by kernel_rfl) ?_
 refine TW.buildSlice 39 _ rfl rfl rfl eo31 (Args.cons rfl ct Args.nil) rfl rfl rfl rfl rfl ?_
 rintro g4 w4 f4
 refine TW.buildSlice 31 _ rfl rfl rfl eo84 (Args.cons rfl ct (Args.cons rfl ct Args.nil)) rfl rfl rfl rfl rfl ?_
 rintro g5 w5 f5
 have b5:=f4.below.step f5.below
 have e5:SE w5 (.slice (some ⟨g4,0,none⟩) 1 1) [vis o f t]:=litEv [([.int .i64 o,.int .i64 f,.int .i64 t,.slice none 0 0],vis o f t)] (f4.blk.next f5.below) rfl (fun p hp=>by
  simp only [List.mem_cons,List.not_mem_nil,or_false] at hp
  subst hp
  exact ⟨_,rfl,hI.1,hI.2.1,hI.2.2,SL.nil _ _ _⟩) (by simp)
 have r5:=se_step hr b5
 have v5:SRs w5 (.slice (some ⟨g5,0,none⟩) 2 2) [r,[vis o f t]]:=OwnS.toSLp (T:=sliceT evT) (F:=fun k=>k<w5.heap.size) (w:=w5) (e:=31) (n:=2) [([.slice R r.length rcap],r),([.slice (some ⟨g4,0,none⟩) 1 1],[vis o f t])] (fun p hp=>by
  simp only [List.mem_cons,List.not_mem_nil,or_false] at hp
  rcases hp with rfl|rfl
  ·exact ⟨_,rfl,r5⟩
  ·exact ⟨_,rfl,e5⟩) (by decide) (OwnS.of_blk f5.blk rfl (by omega)) rfl (fun q hq=>by simp [Value.ownBlock] at hq; subst hq; exact f5.blk.lt) (by simp)
 refine TW.cl rfl (concatE_c v5 (by omega) (by simp)) ?_
 rintro u6 w6 ⟨b6,h6⟩
 refine rnT ?_
 refine rt2 rfl ⟨b5.step b6,_,_,rfl,h6,rfl⟩
end Go.Proofs.YtffjgpoadfkjlaaGreatDoor
namespace Go.PF
open Go.RowKit
section
variable {P:Program} {N:Nat} {ds:List Deferred} {ops rest:List Oper} {D:DE} {w:World} {G:Option Bool} {Fin:DE→Prop}
variable {d:Option Tmp} {ty:TypeId} {pos:String} {af:Array Edge} {gu:Option (Nat×Bool)}
variable {x:Operand} {cx:Option Bool}
theorem DW.buildSliceB {t:TypeId} (e:TypeId) {sz len:Nat} {parts:Array (Nat×Operand)} (xs:List Operand) {es:List Ent} (ψ:Value→World→Prop) (hm:Ent.mono (.pr ψ)) (hg:dgd ops D gu=some G) (hd:okDst N d=true) (hp:parts.toList=number xs) (he:elemOK P t e sz=true)
  (hx:PArgs (Oper.looksAt ops.toArray ⟨d,.buildSlice t len parts,ty,pos,af,gu⟩) N ds D G xs es) (hl:len=xs.length) (hsm:Nat.ble (xs.length*sz) 16777216=true) (hpos:Nat.blt 0 xs.length=true)
  (h:Cnd G→ ∀vs w1,Below w.heap.size w w1→Sats es vs w1→(∀v∈vs,v.cells.size=sz)∧ ∀g w',Fresh w1 w' g e (vs.flatMap (fun v=>v.cells.toList))→ψ (.slice (some ⟨g,0,none⟩) len len) w')
  (next:DW P N ds .weak ops w Fin rest (dins D d G (.pr ψ))):DW P N ds .weak ops w Fin (⟨d,.buildSlice t len parts,ty,pos,af,gu⟩::rest) D:=by
 refine DW.gen hg hd rfl hm (fun hG a w' hb ha=> ?_) next
 have hs:=hx (fun t ht=>mem_looks ?_) a w' ha hG
 ·obtain ⟨h1,h2⟩:=h hG _ _ hb hs
  refine ⟨_,_,X.buildSlice hp (by simpa using hl) he rfl h1 (by simpa using Nat.le_of_ble_eq_true hsm) (by simpa using blt_iff.1 hpos),(Below.refl _ _).alloc (Nat.le_refl _) _,?_⟩
  have:=h2 _ _ (Fresh.mk' w' e _)
  rw [hl] at this
  show ψ _ _
  simpa using this
 ·simp only [Op.operands]
  rw [hp]
  simp only [number,List.map_map]
  rw [List.mem_map]
  obtain ⟨i,hi,hit⟩:=List.getElem_of_mem ht
  exact ⟨(.tmp t,i),by rw [List.mem_zipIdx_iff_getElem?]; rw [List.getElem?_eq_getElem hi,hit],rfl⟩
end
end Go.PF
namespace Go.Proofs.YtffjgpoadfkjlaaGreatDoor
open Go.PF Go.RowKit Go.Ord
attribute [local irreducible] TW CW KW DW
variable {w:World} {t:Int} {K:Knd}
theorem ride1_c {g1 g2:Nat} {l:Li} (h1:Blk w g1 36 (liV l)) (h2:Blk w g2 3 [.int .i64 t]) (hI:Knd.OK (.on l t)) :
  FormOK w 100 [.pointer (some ⟨g1,0,none⟩),.pointer (some ⟨g2,0,none⟩)] (.on l t):=by
 intro r rv w1 hb1 hr hlen
 obtain ⟨R,rcap,rfl,_⟩:=hr.form
 obtain ⟨i1,i2,i3,i4,i5,i6⟩:=hI
 have B1:=h1.next hb1
 have B2:=h2.next hb1
 have j3:I64 (t-l.trav+1):=⟨by omega,by omega⟩
 have j4:I64 (t-1):=⟨by omega,by omega⟩
 have j5:I64 (t+1):=⟨by omega,by omega⟩
 have j6:I64 (t+l.trav-1):=⟨by omega,by omega⟩
 refine gv (f:=100) ?_
 refine rnT ?_
 refine TW.ld rfl (B1.fld rfl) ?_
 refine TW.ld rfl (B2.cell 0) ?_
 refine rnT ?_
 refine TW.ld rfl (B1.fld rfl) ?_
 refine rnT ?_
 refine TW.ld rfl (B2.cell 0) ?_
 refine rnT ?_
 refine TW.build [0,1,2] _ [.int .i64 l.frm,.int .i64 (t-l.trav+1),.int .i64 (t-1),.slice none 0 0] rfl rfl rfl (Args.cons rfl ct (Args.cons rfl ct (Args.cons rfl ct Args.nil))) (by kernel_rfl) ?_
 refine TW.newVar rfl zc39 rfl sz39 rfl rfl ?_
 rintro g3 w3 f3
 refine rnT ?_
 refine TW.ld rfl ((B1.next f3.below).fld rfl) ?_
 refine TW.ld rfl ((B2.next f3.below).cell 0) ?_
 refine rnT ?_
 refine TW.ld rfl ((B2.next f3.below).cell 0) ?_
 refine rnT ?_
 refine TW.ld rfl ((B1.next f3.below).fld rfl) ?_
 refine rnT ?_
 refine TW.build [0,1,2] _ [.int .i64 l.to,.int .i64 (t+1),.int .i64 (t+l.trav-1),.slice none 0 0] rfl rfl rfl (Args.cons rfl ct (Args.cons rfl ct (Args.cons rfl ct Args.nil))) (by kernel_rfl) ?_
 refine TW.newVar rfl zc39 rfl sz39 rfl rfl ?_
 rintro g4 w4 f4
 refine rnT ?_
 have b14:=f3.below.step f4.below
 refine TW.ld rfl ((B1.next b14).fld rfl) ?_
 refine TW.build [0,1,2] _ [.int .i64 (r.length:Int),.int .i64 ((r.length:Int)+1),.int .i64 l.trav] rfl rfl rfl (Args.cons rfl ct (Args.cons rfl ct (Args.cons rfl ct Args.nil))) (by kernel_rfl) ?_
 refine TW.newVar rfl zc43 rfl sz43 rfl rfl ?_
 rintro g5 w5 f5
 refine rnT ?_
 refine CW.pk [0,1,2,4,5,6,7,8] rfl ?_
 refine CW.draw mixed (by kernel_rfl) ?_
 refine rnD ?_
 have b15:=b14.step f5.below
 have B3:=(f3.blk.next f4.below).next f5.below
 have B4:=f4.blk.next f5.below
 have B5:=f5.blk
 have r5:=se_step hr b15
 refine DW.ldS rfl (fun _ _ hv=>B3.fld hv) ?_
 refine DW.ldS rfl (fun _ _ hv=>B4.fld hv) ?_
 refine DW.buildSlice 39 _ rfl rfl rfl eo31 (DArgs.cons rfl ct (DArgs.cons rfl ct DArgs.nil)) rfl rfl rfl rfl rfl ?_
 refine DW.buildSliceB 31 _ (fun u W=>SRs W u [r,[lvE l t,arE l t]]) (fun _ _ _ hb h=>srs_step h hb) rfl rfl rfl eo84 (PArgs.cons rfl ct (PArgs.cons rfl ct PArgs.nil)) rfl rfl rfl (fun _ vs w' hb' hs=> ?_) ?_
 ·obtain ⟨_,b,rfl,rfl,⟨gb,rfl,Bb⟩⟩:=Sats.two hs
  refine ⟨by simp [Value.cells],fun gg w'' ff=> ?_⟩
  have e2:SE w'' (.slice (some ⟨gb,0,none⟩) 2 2) [lvE l t,arE l t]:=litEv [([.int .i64 l.frm,.int .i64 (t-l.trav+1),.int .i64 (t-1),.slice none 0 0],lvE l t),([.int .i64 l.to,.int .i64 (t+1),.int .i64 (t+l.trav-1),.slice none 0 0],arE l t)] (Bb.next ff.below) rfl (fun p hp=>by
   simp only [List.mem_cons,List.not_mem_nil,or_false] at hp
   rcases hp with rfl|rfl
   ·exact ⟨_,rfl,i1,j3,j4,SL.nil _ _ _⟩
   ·exact ⟨_,rfl,i2,j5,j6,SL.nil _ _ _⟩) (by simp)
  have r2:SE w'' (.slice R r.length rcap) r:=se_step r5 (hb'.step ff.below)
  exact OwnS.toSLp (T:=sliceT evT) (F:=fun k=>k<w''.heap.size) (w:=w'') (e:=31) (n:=2) [([.slice R r.length rcap],r),([.slice (some ⟨gb,0,none⟩) 2 2],[lvE l t,arE l t])] (fun p hp=>by
   simp only [List.mem_cons,List.not_mem_nil,or_false] at hp
   rcases hp with rfl|rfl
   ·exact ⟨_,rfl,r2⟩
   ·exact ⟨_,rfl,e2⟩) (by decide) (OwnS.of_blk ff.blk rfl (by omega)) rfl (fun q hq=>by simp [Value.ownBlock] at hq; subst hq; exact ff.blk.lt) (by simp)
 refine DW.callP (.pr (fun u W=>SE W u (r++ [lvE l t,arE l t]))) (fun _ _ _ hb h=>se_step h hb) rfl rfl en78 rfl ct (PArgs.cons rfl ct PArgs.nil) (fun _ w' hb' vs hs=> ?_) ?_
 ·obtain ⟨u,rfl,hu⟩:=Sats.one hs
  exact concatE_c hu (by omega) (by simp)
 refine DW.ldS rfl (fun _ _ hv=>B5.fld hv) ?_
 refine DW.buildSlice 43 _ rfl rfl rfl eo44 (DArgs.cons rfl ct DArgs.nil) rfl rfl rfl rfl rfl ?_
 refine DW.assignP rfl rfl rfl ct (fun _ _ _ hb h=>se_step h hb) ?_
 refine DW.assignP rfl rfl rfl ct (Lies.mono _ _ _) ?_
 refine DW.nil (DW.finP [4,5] rfl fun vs w9 hb9 hs9=>KW.then_ ?_)
 obtain ⟨v4,v5,rfl,h4,h5⟩:=Sats.two hs9
 refine CW.ret ?_
 obtain ⟨gl,rfl,hBl⟩:=h5
 refine rt2 rfl ⟨b15.step hb9,_,_,rfl,h4,⟨gl,0,none⟩,1,rfl,⟨fun j u hj=>hBl.fld hj⟩⟩
theorem can1_c {gf gd k:Nat} {caps:List Value} {dv:Value} {d:Dist} {rs:List (List Ev)} (hf:Blk w gf 90 [.func (.func k) #[] caps.toArray]) (hd:Blk w gd 30 [dv]) (hD:SD w dv d) (hk:enters Tryz.prog k=true) (hF:FormOK w k caps K) (hKI:K.OK) (hlen: ∀r∈rs,r.length≤14) :
  PredRV w 57 [.pointer (some ⟨gf,0,none⟩),.pointer (some ⟨gd,0,none⟩)] rs (K.b d):=by
 intro r hr rv w1 hb1 hrv
 have hrv1:SE w1 rv r:=hrv.wider fun q hq=>Nat.lt_of_lt_of_le hq hb1.size
 refine gv (f:=57) ?_
 refine rnT ?_
 refine TW.pk [0,1,2,4] rfl ?_
 refine TW.ld rfl ((hf.next hb1).cell 0) ?_
 refine rnT ?_
 refine TW.call0 rfl rfl hk rfl (Args.cons rfl ct Args.nil) (hF r rv _ hb1 hrv1 (hlen r hr)) ?_
 rintro y2 w2 ⟨b2,ev,lg,rfl,hR⟩
 have B2:=(hd.next hb1).next b2
 have hD2:=sd_step hD (hb1.step b2)
 refine rnT ?_
 refine TW.ld rfl (B2.cell 0) ?_
 refine rnT ?_
 have key:Gives Tryz.prog 6 #[dv,ev,lg] w2 fun x w'=>Below w2.heap.size w2 w'∧ ∃v,x= .tuple #[v,.bool (K.b d r)]:=by
  cases K with
  | «at» o f t =>
   obtain ⟨h1,rfl⟩:=hR
   exact fit_c hD2 h1
  | on l t =>
   obtain ⟨h1,la,lc,rfl,h2⟩:=hR
   exact fitJ_c hD2 h1 h2 rfl rfl ⟨hKI.2.2.1,hKI.2.2.2.1⟩
 refine TW.cl rfl (key) ?_
 rintro y3 w3 ⟨b3,tv,rfl⟩
 refine rnT ?_
 refine rt1 rfl ⟨b2.step b3,rfl⟩
theorem can_c {dv sv:Value} {d:Dist} {rs:List (List Ev)} {k:FuncId} {caps:List Value} (hD:SD w dv d) (hS:SRs w sv rs) (hk:enters Tryz.prog k=true) (hF:FormOK w k caps K) (hKI:K.OK) (hlen: ∀r∈rs,r.length≤14) :
  Gives Tryz.prog 31 #[dv,sv,.func (.func k) #[] caps.toArray] w fun x w'=>Below w.heap.size w w'∧x= .bool (canB d rs K):=by
 obtain ⟨A,cap,rfl,_⟩:=hD.form
 refine gv (f:=31) ?_
 refine rnT ?_
 refine TW.box rfl rfl rfl rfl ?_
 rintro g1 w1 f1
 refine TW.box rfl rfl rfl rfl ?_
 rintro g2 w2 f2
 refine rnT ?_
 refine TW.makeFunc rfl rfl (Args.cons rfl ct (Args.cons rfl ct Args.nil)) ?_
 have b2:=f1.below.step f2.below
 refine TW.cl rfl (someRV_c (srs_step hS b2) en57 (can1_c f2.blk (f1.blk.next f2.below) (sd_step hD b2) hk (hF.step b2) hKI hlen)) ?_
 rintro y3 w3 ⟨b3,rfl⟩
 refine rnT ?_
 refine rt1 rfl ⟨b2.step b3,rfl⟩
def FormAt (b:Nat) (W:World) (v:Value) (K:Knd):Prop:=match K with
 | .at o f t=> ∃g1 g2 g3,v= .func (.func 77) #[] [.pointer (some ⟨g1,0,none⟩),.pointer (some ⟨g2,0,none⟩),.pointer (some ⟨g3,0,none⟩)].toArray∧Blk W g1 3 [.int .i64 o]∧Blk W g2 3 [.int .i64 f]∧Blk W g3 3 [.int .i64 t]∧b≤g1∧b≤g2∧b≤g3
 | .on l t=> ∃g1 g2,v= .func (.func 100) #[] [.pointer (some ⟨g1,0,none⟩),.pointer (some ⟨g2,0,none⟩)].toArray∧Blk W g1 36 (liV l)∧Blk W g2 3 [.int .i64 t]∧b≤g1∧b≤g2
theorem FormAt.ok {b:Nat} {W:World} {v:Value} (h:FormAt b W v K) (hI:K.OK): ∃k caps,v= .func (.func k) #[] caps.toArray∧enters Tryz.prog k=true∧FormOK W k caps K:=by
 cases K with
 | «at» o f t =>
  obtain ⟨g1,g2,g3,rfl,h1,h2,h3,_⟩:=h
  exact ⟨_,_,rfl,en77,visit1_c h1 h2 h3 hI⟩
 | on l t =>
  obtain ⟨g1,g2,rfl,h1,h2,_⟩:=h
  exact ⟨_,_,rfl,en100,ride1_c h1 h2 hI⟩
theorem FormAt.ext {b n:Nat} {W W':World} {v:Value} {K:Knd} (h:FormAt b W v K) (hx:ExtF n W W'):FormAt b W' v K:=by
 cases K with
 | «at» o f t =>
  obtain ⟨g1,g2,g3,rfl,h1,h2,h3,h4⟩:=h
  exact ⟨g1,g2,g3,rfl,h1.ext hx,h2.ext hx,h3.ext hx,h4⟩
 | on l t =>
  obtain ⟨g1,g2,rfl,h1,h2,h4⟩:=h
  exact ⟨g1,g2,rfl,h1.ext hx,h2.ext hx,h4⟩
theorem visit_c {o f:Int}:Gives Tryz.prog 34 #[.int .i64 o,.int .i64 f,.int .i64 t] w fun u w'=>Below w.heap.size w w'∧FormAt w.heap.size w' u (.at o f t):=by
 refine gv (f:=34) ?_
 refine rnT ?_
 refine TW.box rfl rfl rfl rfl ?_
 rintro g1 w1 f1
 refine TW.box rfl rfl rfl rfl ?_
 rintro g2 w2 f2
 refine TW.box rfl rfl rfl rfl ?_
 rintro g3 w3 f3
 refine rnT ?_
 refine TW.makeFunc rfl rfl (Args.cons rfl ct (Args.cons rfl ct (Args.cons rfl ct Args.nil))) ?_
 refine rnT ?_
 have s1:=f1.at_
 have s2:=f2.at_
 have s3:=f3.at_
 have s4:=f1.size
 have s5:=f2.size
 refine rt1 rfl ⟨f1.below.step (f2.below.step f3.below),g1,g2,g3,rfl,f1.blk.next (f2.below.step f3.below),f2.blk.next f3.below,f3.blk,by omega,by omega,by omega⟩
theorem ride_c {l:Li}:Gives Tryz.prog 55 #[.agg (liV l).toArray,.int .i64 t] w fun u w'=>Below w.heap.size w w'∧FormAt w.heap.size w' u (.on l t):=by
 refine gv (f:=55) ?_
 refine rnT ?_
 refine TW.box rfl rfl rfl rfl ?_
 rintro g1 w1 f1
 refine TW.box rfl rfl rfl rfl ?_
 rintro g2 w2 f2
 refine rnT ?_
 refine TW.makeFunc rfl rfl (Args.cons rfl ct (Args.cons rfl ct Args.nil)) ?_
 refine rnT ?_
 have s1:=f1.at_
 have s2:=f2.at_
 have s4:=f1.size
 refine rt1 rfl ⟨f1.below.step f2.below,g1,g2,rfl,f1.blk.next f2.below,f2.blk,by omega,by omega⟩
theorem places_c {v:NV}:Gives Tryz.prog 30 #[.agg v.cells.toArray,.int .i64 t] w fun u w'=>Below w.heap.size w w'∧ ∃g1 g2,u= .func (.func 54) #[] [.pointer (some ⟨g1,0,none⟩),.pointer (some ⟨g2,0,none⟩)].toArray∧Blk w' g1 29 v.cells∧Blk w' g2 3 [.int .i64 t]∧w.heap.size≤g1∧w.heap.size≤g2:=by
 refine gv (f:=30) ?_
 refine rnT ?_
 refine TW.box rfl rfl rfl rfl ?_
 rintro g1 w1 f1
 refine TW.box rfl rfl rfl rfl ?_
 rintro g2 w2 f2
 refine rnT ?_
 refine TW.makeFunc rfl rfl (Args.cons rfl ct (Args.cons rfl ct Args.nil)) ?_
 refine rnT ?_
 have s1:=f1.at_
 have s2:=f2.at_
 have s4:=f1.size
 refine rt1 rfl ⟨f1.below.step f2.below,g1,g2,rfl,f1.blk.next f2.below,f2.blk,by omega,by omega⟩
end Go.Proofs.YtffjgpoadfkjlaaGreatDoor
namespace Go.PF
open Go.RowKit
section
variable {P:Program} {r:Option Nat} {Q:Exit→Act→World→Prop} {N:Nat} {ds:List Deferred} {ops rest:List Oper} {E:Env} {D:DE} {w:World} {G:Option Bool} {Fin:DE→Prop} {md:Mode}
variable {d:Option Tmp} {ty:TypeId} {pos:String} {af:Array Edge} {gu:Option (Nat×Bool)}
variable {x y z:Operand} {cx cy cz:Option Bool} {ρ:Operand→Value}
theorem run_loadVarA {t e:TypeId} {n:Nat} (hu:P.underlying t=some (.array n e)) {cs:List Value} (hs:(P.info? t).map (·.size)=some cs.length) {ad:Addr} (hc: ∀j v,cs[j]?=some v→w.cell? (ad.add j)=some v) :
  (loadVar t ad).run P w= .ok (.agg cs.toArray) w:=by
 simp [loadVar,isAgg,run_underlying hu,run_sizeOf hs,run_loadCells_list w ad cs hc]
theorem X.loadA {t e:TypeId} {ad:Addr} {n:Nat} {cs:List Value} (hu:P.underlying t=some (.array n e)) (hs:(P.info? t).map (·.size)=some cs.length) (hx:ρ x= .pointer (some ad)) (hc: ∀j v,cs[j]?=some v→w.cell? (ad.add j)=some v) :
  (execOp ρ ⟨d,.load t x,ty,pos,af,gu⟩).run P w= .ok (.value (.agg cs.toArray)) w:=by
 simp only [execOp]; rw [hx]; simp [Instr.loadAt,Instr.sureAddr,run_loadVarA hu hs hc]
theorem TW.loadA {t e:TypeId} {ad:Addr} {m n:Nat} (cs:List Value) (hg:gd ops E gu=some G) (hd:okDst N d=true) (hu:P.underlying t=some (.array m e)) (hs:(P.info? t).map (·.size)=some n)
  (hx:ev E x=some (cx,.pointer (some ad))) (ix:Cnd G→Cnd cx) (hc:Cnd G→ ∀j v,cs[j]?=some v→w.cell? (ad.add j)=some v) (hl:cs.length=n)
  (next:TW P r Q N ds ops rest (ins E d G (.agg cs.toArray)) w):TW P r Q N ds ops (⟨d,.load t x,ty,pos,af,gu⟩::rest) E w :=
 TW.val hg hd rfl (fun hG _ ha=>X.loadA hu (hl ▸ hs) (ha.eval hx (ix hG)) (hc hG)) next
theorem DW.loadA {t e:TypeId} {ad:Addr} {m n:Nat} (cs:List Value) (hg:dgd ops D gu=some G) (hd:okDst N d=true) (hu:P.underlying t=some (.array m e)) (hs:(P.info? t).map (·.size)=some n)
  (hx:dev D x=some (cx,.ex (.pointer (some ad)))) (ix:Cnd G→Cnd cx) (hc:Cnd G→ ∀j v,cs[j]?=some v→w.cell? (ad.add j)=some v) (hl:cs.length=n)
  (next:DW P N ds md ops w Fin rest (dins D d G (.ex (.agg cs.toArray)))):DW P N ds md ops w Fin (⟨d,.load t x,ty,pos,af,gu⟩::rest) D :=
 DW.val hg hd rfl (fun hG _ _ hb ha=>X.loadA hu (hl ▸ hs) (ha.eval (o:=⟨d,.load t x,ty,pos,af,gu⟩) hx (by simp [Op.operands]) (ix hG)) (fun j v hj=>(hb.cell (block_lt_of_cell (hc hG j v hj))).trans (hc hG j v hj))) next
theorem isAgg_one {e:TypeId} (h1:one P e=true):(isAgg e).run P w= .ok false w:=by
 unfold one at h1
 cases hu':P.underlying e with
 | none=>simp [hu'] at h1
 | some dsc=>cases dsc<;>first|(simp [hu'] at h1; done)|simp [isAgg,run_underlying hu']
theorem X.indexV {t e:TypeId} {l:Nat} {k:IntKind} {i:Int} {cs:List Value} {v:Value} (ht:P.underlying t=some (.array l e)) (h1:one P e=true) (hs:(P.info? e).map (·.size)=some 1) (hx:ρ x= .agg cs.toArray) (hy:ρ y= .int k i) (hi:0≤i∧i<(l:Int)) (hv:cs[i.toNat]?=some v) :
  (execOp ρ ⟨d,.index t x y,ty,pos,af,gu⟩).run P w= .ok (.value v) w:=by
 simp only [execOp]; rw [hx,hy]
 simp [Instr.index,run_underlying ht,asIntOf,hi,run_sizeOf hs,part,isAgg_one h1,hv]
theorem TW.indexV {t e:TypeId} {l:Nat} {k:IntKind} {i:Int} {cs:List Value} {v:Value} (hg:gd ops E gu=some G) (hd:okDst N d=true) (ht:P.underlying t=some (.array l e)) (h1:one P e=true) (hs:(P.info? e).map (·.size)=some 1)
  (hx:ev E x=some (cx,.agg cs.toArray)) (ix:Cnd G→Cnd cx) (hy:ev E y=some (cy,.int k i)) (iy:Cnd G→Cnd cy) (hi:Cnd G→0≤i∧i<(l:Int)) (hv:Cnd G→cs[i.toNat]?=some v)
  (next:TW P r Q N ds ops rest (ins E d G v) w):TW P r Q N ds ops (⟨d,.index t x y,ty,pos,af,gu⟩::rest) E w :=
 TW.val hg hd rfl (fun hG _ ha=>X.indexV ht h1 hs (ha.eval hx (ix hG)) (ha.eval hy (iy hG)) (hi hG) (hv hG)) next
variable {fn:Func} {R:Value→World→Prop}
theorem retCA {s:Nat} {t e t1:TypeId} {m g n:Nat} {cs:List Value} (hres:fn.results= #[.cell s t]) (hu:P.underlying t=some (.array m e)) (hs:(P.info? t).map (·.size)=some n) (hn:cs.length=n) (hl:look E s=some (none,.pointer (some ⟨g,0,none⟩))) (hB:Blk w g t1 cs) (hR:R (.agg cs.toArray) w) :
  KW N [] (bodyPost P fn (fun e w'=> ∃v,e= .returned v∧R v w') .ret) E w:=fun a ha=>by
 refine bodyPost_ret (v:= .agg cs.toArray) ?_ ha.defers ⟨_,rfl,hR⟩
 have e:a.tmps.getD s undef= .pointer (some ⟨g,0,none⟩):=(ha.slots s none _ hl).1 trivial
 simp only [Array.getD_eq_getD_getElem?] at e
 subst hn
 simp [results,hres,e,asAddr,run_loadVarA hu hs (fun j v hj=>hB.fld hj)]
end
end Go.PF
namespace Go.Proofs.YtffjgpoadfkjlaaGreatDoor
open Go.PF Go.RowKit Go.Ord
attribute [local irreducible] TW CW KW DW
variable {w:World} {i:Int} {A:Option Addr} {n c:Nat}
structure Tabs (w:World):Prop where
 key: ∀(i:Nat) (s:ByteArray),keys11[i]?=some s→w.cell? ⟨0,i,none⟩=some (.string s)
theorem Tabs.below {w':World} (h:Tabs w) (hb:Below w.heap.size w w'):Tabs w':=⟨fun i s hs=>(hb.cell (block_lt_of_cell (h.key i s hs))).trans (h.key i s hs)⟩
theorem listB (a b:ByteArray):(a.toList==b.toList)=true↔a=b:=by
 rw [beq_iff_eq]
 constructor
 ·intro h
  rw [ByteArray.toList_eq,ByteArray.toList_eq] at h
  exact ByteArray.ext (Array.ext' h)
 ·rintro rfl; rfl
theorem beqL (a b:ByteArray):(a.toList==b.toList)=decide (a=b):=by
 by_cases h:a=b
 ·rw [(listB a b).2 h,decide_eq_true h]
 ·rw [decide_eq_false h]
  cases h':(a.toList==b.toList) with
  | true=>exact absurd ((listB a b).1 h') h
  | false=>rfl
theorem isSmall_c {b:Nat}:Gives Tryz.prog 133 #[.int .u8 (b:Int)] w fun u w'=>Below w.heap.size w w'∧u= .bool (dec (isSm b)):=by
 refine gv (f:=133) ?_
 refine rnT ?_
 refine rt1 rfl ⟨Below.refl _ _,?_⟩
 by_cases h:isSm b
 ·rw [dec_pos h]
  unfold isSm at h
  simp
  omega
 ·rw [dec_neg h]
  unfold isSm at h
  simp
  omega
theorem isDigit_c {b:Nat}:Gives Tryz.prog 134 #[.int .u8 (b:Int)] w fun u w'=>Below w.heap.size w w'∧u= .bool (dec (isDg b)):=by
 refine gv (f:=134) ?_
 refine rnT ?_
 refine rt1 rfl ⟨Below.refl _ _,?_⟩
 by_cases h:isDg b
 ·rw [dec_pos h]
  unfold isDg at h
  simp
  omega
 ·rw [dec_neg h]
  unfold isDg at h
  simp
  omega
theorem isFrom_c {v a b:Int}:Gives Tryz.prog 115 #[.int .i64 v,.int .i64 a,.int .i64 b] w fun u w'=>Below w.heap.size w w'∧u= .bool (decide (a≤v∧v≤b)):=by
 refine gv (f:=115) ?_
 refine rnT ?_
 refine rt1 rfl ⟨Below.refl _ _,?_⟩
 by_cases h1:a≤v<;>by_cases h2:v≤b<;>simp [h1,h2]
theorem isMinute_c {v:Int}:Gives Tryz.prog 75 #[.int .i64 v] w fun u w'=>Below w.heap.size w w'∧u= .bool (decide (0≤v∧v≤1439)):=by
 refine gv (f:=75) ?_
 refine rnT ?_
 refine TW.cl rfl (isFrom_c) ?_
 rintro y1 w1 ⟨hb1,rfl⟩
 refine rnT ?_
 refine rt1 rfl ⟨hb1,rfl⟩
theorem isIndexO_c:Gives Tryz.prog 112 #[.int .i64 i,.slice A n c] w fun u w'=>Below w.heap.size w w'∧u= .bool (decide (0≤i∧i<(n:Int))):=by
 refine gv (f:=112) ?_
 refine rnT ?_
 refine rt1 rfl ⟨Below.refl _ _,?_⟩
 by_cases h1:0≤i<;>by_cases h2:i<(n:Int)<;>simp [h1,h2]
theorem isIndexC_c:Gives Tryz.prog 113 #[.int .i64 i,.slice A n c] w fun u w'=>Below w.heap.size w w'∧u= .bool (decide (0≤i∧i<(n:Int))):=by
 refine gv (f:=113) ?_
 refine rnT ?_
 refine rt1 rfl ⟨Below.refl _ _,?_⟩
 by_cases h1:0≤i<;>by_cases h2:i<(n:Int)<;>simp [h1,h2]
theorem isIndexF_c:Gives Tryz.prog 119 #[.int .i64 i,.slice A n c] w fun u w'=>Below w.heap.size w w'∧u= .bool (decide (0≤i∧i<(n:Int))):=by
 refine gv (f:=119) ?_
 refine rnT ?_
 refine rt1 rfl ⟨Below.refl _ _,?_⟩
 by_cases h1:0≤i<;>by_cases h2:i<(n:Int)<;>simp [h1,h2]
theorem isCode_c {s:ByteArray}:Gives Tryz.prog 114 #[.string s] w fun u w'=>Below w.heap.size w w'∧u= .bool (dec (CodeOK s)):=by
 refine gv (f:=114) ?_
 refine rnT ?_
 refine CW.pk [0,2,12] rfl ?_
 refine CW.cond rfl (fun hbad=> ?_) (fun hgood=> ?_)
 ·refine rnT ?_
  refine rt1 rfl ⟨Below.refl _ _,?_⟩
  rw [dec_neg fun h=> ?_]
  have:=h.n1
  have:=h.n2
  simp at hbad
  omega
 have hsz:1≤s.size∧s.size≤8:=by simp at hgood; omega
 refine CW.skip (KW.then_ (CW.seq (CW.seq (CW.region ?_))))
 refine TW.v V.move rfl ⟨ct,trivial⟩ (fun _=>trivial) ?_
 refine TW.bytesOf rfl rfl Tryz.underlying9 Tryz.underlying185 Tryz.underlying5 rfl ?_
 rintro g c w1 hs1 hg1 hb1 hcell
 refine rnT ?_
 refine CW.lp [14,15] (fun k:Nat=> [(16,none,.int .i64 (k:Int))])
  (fun k W=>k≤s.size∧Below w1.heap.size w1 W∧ ∀i,i<k→(65≤byteA s i∧byteA s i≤90)∨isDg (byteA s i)) (fun k=>s.size-k) 0 ⟨Nat.zero_le _,Below.refl _ _,fun i hi=>by omega⟩ ?_
 rintro k W ⟨hk,hB,hok⟩
 refine rnT ?_
 refine CW.condP rfl (fun hlt=> ?_) (fun hge=> ?_)
 ·have hks:k<s.size:=by omega
  have hc:W.cell? (Addr.add ⟨g,0,none⟩ ((k:Int).toNat*1))=some (.int .u8 ((byteA s k:Nat):Int)):=by
   have h1:=hcell k hks
   rw [show (k:Int).toNat*1=k by omega,addr0]
   exact (hB.cell (block_lt_of_cell h1)).trans h1
  refine rnT ?_
  refine TW.ld rfl hc ?_
  refine rnT ?_
  refine TW.cl rfl (isDigit_c) ?_
  rintro y2 w2 ⟨hb2,rfl⟩
  refine rnT ?_
  refine CW.pk [4,14,15,16,30] rfl ?_
  refine CW.cond rfl (fun hbad=> ?_) (fun hgood2=> ?_)
  ·refine rnT ?_
   refine rt1 rfl ⟨(hb1.step hB).step hb2,?_⟩
   rw [dec_neg fun h=> ?_]
   have:=h.all k hks
   by_cases hd:isDg (byteA s k)
   ·rw [dec_pos hd] at hbad
    simp at hbad
   ·rw [dec_neg hd] at hbad
    rcases this with h|h
    ·simp at hbad
     omega
    ·exact hd h
  ·refine rnT ?_
   refine KW.rd (k+1) ⟨by omega,hB.step hb2,fun i hi=> ?_⟩
   rcases Nat.lt_or_ge i k with h|h
   ·exact hok i h
   ·have:i=k:=by omega
    subst this
    by_cases hd:isDg (byteA s i)
    ·exact .inr hd
    ·rw [dec_neg hd] at hgood2
     simp at hgood2
     omega
 ·have hke:k=s.size:=by omega
  subst hke
  refine rnT ?_
  refine rt1 rfl ⟨hb1.step hB,by rw [dec_pos ⟨hsz.1,hsz.2,hok⟩]⟩
theorem isName_c {s:ByteArray} (ht:Tabs w):Gives Tryz.prog 103 #[.string s] w fun u w'=>Below w.heap.size w w'∧u= .bool (dec (NameOK keys11 s)):=by
 refine gv (f:=103) ?_
 refine rnT ?_
 refine TW.callF (cap:= []) rfl rfl en133 rfl ct (Args.cons rfl id Args.nil) (fun _=>isSmall_c (b:=byteA s 0)) ?_
 rintro w1 c1
 refine rnT ?_
 refine CW.pk [0,2,20] rfl ?_
 refine CW.cond rfl (fun hbad=> ?_) (fun hgood=> ?_)
 ·refine rnT ?_
  refine rt1 rfl ⟨c1,?_⟩
  rw [dec_neg fun h=> ?_]
  have h1:=h.n1
  have h2:=h.n2
  rw [dec_pos h.fst] at hbad
  simp at hbad
  omega
 have hsz:(1≤s.size∧s.size≤16)∧isSm (byteA s 0):=by
  simp only [Bool.or_eq_false_iff,decide_eq_false_iff_not,Bool.not_eq_false'] at hgood
  exact ⟨by omega,dec_iff.1 hgood.2⟩
 refine CW.skip (KW.then_ (CW.seq (CW.seq (CW.region ?_))))
 refine TW.v V.move rfl ⟨ct,trivial⟩ (fun _=>trivial) ?_
 refine TW.bytesOf rfl rfl Tryz.underlying9 Tryz.underlying185 Tryz.underlying5 rfl ?_
 rintro g c w2 hs2 hg2 hb2 hcell
 refine rnT ?_
 refine CW.lp [0,22,23] (fun k:Nat=> [(24,none,.int .i64 (k:Int))])
  (fun k W=>k≤s.size∧Below w2.heap.size w2 W∧ ∀i,i<k→isSm (byteA s i)∨isDg (byteA s i)∨byteA s i=95) (fun k=>s.size-k) 0 ⟨Nat.zero_le _,Below.refl _ _,fun i hi=>by omega⟩ ?_
 rintro k W ⟨hk,hB,hok⟩
 refine rnT ?_
 refine CW.condP rfl (fun hlt=> ?_) (fun hge=> ?_)
 ·have hks:k<s.size:=by omega
  have hc:W.cell? (Addr.add ⟨g,0,none⟩ ((k:Int).toNat*1))=some (.int .u8 ((byteA s k:Nat):Int)):=by
   have h1:=hcell k hks
   rw [show (k:Int).toNat*1=k by omega,addr0]
   exact (hB.cell (block_lt_of_cell h1)).trans h1
  refine rnT ?_
  refine TW.ld rfl hc ?_
  refine rnT ?_
  refine TW.cl rfl (isSmall_c) ?_
  rintro y3 w3 ⟨c3,rfl⟩
  refine rnT ?_
  refine TW.callF (cap:= []) rfl rfl en134 rfl ct (Args.cons rfl id Args.nil) (fun _=>isDigit_c) ?_
  rintro w4 c4
  refine rnT ?_
  refine CW.pk [0,4,22,23,24,39] rfl ?_
  have hB4:=(hB.step c3).step c4
  refine CW.cond rfl (fun hbad2=> ?_) (fun hgood2=> ?_)
  ·refine rnT ?_
   refine rt1 rfl ⟨(c1.step hb2).step hB4,?_⟩
   rw [dec_neg fun h=> ?_]
   rcases h.all k hks with h|h|h
   ·rw [dec_pos h] at hbad2
    simp at hbad2
   ·rw [dec_pos h] at hbad2
    simp at hbad2
   ·simp [h] at hbad2
  ·refine rnT ?_
   refine KW.rd (k+1) ⟨by omega,hB4,fun i hi=> ?_⟩
   rcases Nat.lt_or_ge i k with h|h
   ·exact hok i h
   ·have:i=k:=by omega
    subst this
    by_cases h1:isSm (byteA s i)
    ·exact .inl h1
    ·by_cases h2:isDg (byteA s i)
     ·exact .inr (.inl h2)
     ·rw [dec_neg h1,dec_neg h2] at hgood2
      simp at hgood2
      exact .inr (.inr (by omega))
 have hke:k=s.size:=by omega
 subst hke
 have hbW:=(c1.step hb2).step hB
 have htW:=ht.below hbW
 have hkl:keys11.length=17:=rfl
 have hkey: ∀(j:Nat) (v:Value),(keys11.map Value.string)[j]?=some v→W.cell? (Addr.add ⟨0,0,none⟩ j)=some v:=fun j v hj=>by
  rw [List.getElem?_map] at hj
  obtain ⟨z,hz,rfl⟩:=Option.map_eq_some_iff.1 hj
  rw [addr0]
  exact htW.key j z hz
 refine rnT ?_
 refine TW.loadA _ rfl rfl Tryz.underlying186 sz186 rfl ct (fun _=>hkey) rfl ?_
 refine rnT ?_
 refine CW.lp [0,41] (fun k:Nat=> [(42,none,.int .i64 (k:Int))])
  (fun k W'=>k≤17∧W'=W∧ ∀i x,i<k→keys11[i]?=some x→s≠x) (fun k=>17-k) 0 ⟨Nat.zero_le _,rfl,fun i x hi=>by omega⟩ ?_
 rintro k W ⟨hk,rfl,hno⟩
 refine rnT ?_
 refine CW.condP rfl (fun hlt=> ?_) (fun hge=> ?_)
 ·obtain ⟨x,hx,hxm⟩:=getx (l:=keys11) (k:=k) (by omega)
  have hxv:(keys11.map Value.string)[(k:Int).toNat]?=some (.string x):=by rw [show (k:Int).toNat=k by omega,List.getElem?_map,hx]; rfl
  refine CW.skip (KW.then_ (CW.seq (CW.block (CW.seq (CW.region ?_)))))
  refine TW.indexV rfl rfl Tryz.underlying186 one9 sz9 rfl ct rfl ct (fun _=>by (try dsimp only); omega) (fun _=>hxv) ?_
  refine rnT ?_
  refine CW.pk [0,6,41,42,47] rfl ?_
  rw [beqL]
  refine CW.cond rfl (fun heq=> ?_) (fun hne=> ?_)
  ·refine rnT ?_
   refine rt1 rfl ⟨hbW,?_⟩
   rw [dec_neg fun h=> ?_]
   exact h.nokey (of_decide_eq_true heq ▸ hxm)
  ·refine rnT ?_
   refine KW.rd (k+1) ⟨by omega,rfl,fun i z hi hz=> ?_⟩
   rcases Nat.lt_or_ge i k with h|h
   ·exact hno i z h hz
   ·have:i=k:=by omega
    subst this
    rw [hx] at hz
    cases hz
    exact of_decide_eq_false hne
 ·refine rnT ?_
  have hnk:s ∉ keys11:=fun h=>by
   obtain ⟨i,hi⟩:=List.mem_iff_getElem?.1 h
   exact hno i s (by have:=(List.getElem?_eq_some_iff.1 hi).1; omega) hi rfl
  refine rt1 rfl ⟨hbW,by rw [dec_pos ⟨hsz.1.1,hsz.1.2,hsz.2,hok,hnk⟩]⟩
end Go.Proofs.YtffjgpoadfkjlaaGreatDoor
