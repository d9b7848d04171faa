/- Texts joined: Vg Yb Yc Yd Ye. -/
import Derived.Test.YthjcgmjcpmodlaaDoorQF
set_option linter.unusedSimpArgs false
set_option linter.unusedVariables false

namespace Go.Proofs.YthjcgmjcpmodlaaDoor
open Go.PF Go.RowKit Go.Ord Go.Sort

def LookIs (w : World) (b : Nat) (R : ByteArray → Nat → Prop) : Prop := ∃ m, MapL sK w b m ∧ ∀ k v, ((k, v) ∈ m ∨ ((∀ p ∈ m, p.1 ≠ k) ∧ v = .slice none 0 0)) → ∃ xs : List Int, SI w v xs ∧ xs.length ≤ 16000 ∧ ∀ z, z ∈ xs ↔ ∃ j : Nat, (j : Int) = z ∧ R k j
theorem LookIs.below {w w' : World} {b : Nat} {R : ByteArray → Nat → Prop} (h : LookIs w b R) (hb : Below w.heap.size w w') : LookIs w' b R := by
  obtain ⟨m, h1, h2⟩ := h
  refine ⟨m, h1.below hb, fun k v hv => ?_⟩
  obtain ⟨xs, a1, a2⟩ := h2 k v hv
  exact ⟨xs, si_step a1 hb, a2⟩
theorem LookIs.of {w : World} {lo b : Nat} {id : Bool} {own : Nat → Bool × ByteArray} {T n : Nat} {R : ByteArray → Nat → Prop} {m : List (ByteArray × Value)} (h : IdxM w lo b id own T R m) (hT : T ≤ 16000) (hR : ∀ k j, R k j → j < n) (hn : n ≤ 400) : LookIs w b R := by
  refine ⟨m, h.mp, fun k v hv => ?_⟩
  rcases hv with hv | ⟨hv, rfl⟩
  · obtain ⟨xs, h1, h2, h3, h4⟩ := h.rows _ hv
    have e : nats xs = (xs.map fun i : Nat => (i : Int)).map (Value.int .i64) := by simp [nats]
    rw [e] at h1
    refine ⟨xs.map fun i : Nat => (i : Int), own_si (by simpa using h1) (fun x hx => ?_) (by simp; omega), by simp; omega, fun z => ?_⟩
    · obtain ⟨j, hj, rfl⟩ := List.mem_map.1 hx
      have := hR _ _ ((h3 j).1 hj)
      exact ⟨by omega, by omega⟩
    · rw [List.mem_map]
      exact ⟨fun ⟨j, hj, e⟩ => ⟨j, e, (h3 j).1 hj⟩, fun ⟨j, e, hj⟩ => ⟨j, (h3 j).2 hj, e⟩⟩
  · exact ⟨[], SL.nil _ _ _, by simp, fun z => ⟨fun h => (by cases h), fun ⟨j, _, hj⟩ => absurd hj (h.miss k hv j)⟩⟩

/-- what the records say, in memory -/
structure SrcOK (w : World) (sb bl bh : Nat) (u v : Value) (l : List Sc) (r : List Rc) : Prop where
  blk : Blk w sb 57 [u, v, .map (some bl), .map (some bh)]
  ss : SS w u l
  sr : SR w v r
  lab : LookIs w bl (RL l r r.length)
  hold : LookIs w bh (RH l r r.length)
  few : r.length ≤ 400
theorem SrcOK.below {w w' : World} {sb bl bh : Nat} {u v : Value} {l : List Sc} {r : List Rc} (h : SrcOK w sb bl bh u v l r) (hb : Below w.heap.size w w') : SrcOK w' sb bl bh u v l r :=
  ⟨h.blk.next hb, ss_step h.ss hb, sr_step h.sr hb, h.lab.below hb, h.hold.below hb, h.few⟩

theorem recI_eq (c : List Nat) (i : Nat) : Lib.compact (((c.map fun k : Nat => (k : Int)) ++ [(i : Int)]).mergeSort fun x y => decide (x ≤ y)) = recI (c ++ [i]) := by
  obtain ⟨h1, h2⟩ := mem_compact_sort (c := (c.map fun k : Nat => (k : Int)) ++ [(i : Int)])
  refine inc_ext h1 (recI_inc _) fun x => ?_
  rw [h2, mem_recI]
  simp only [List.mem_append, List.mem_map, List.mem_singleton]
  constructor
  · rintro (⟨k, hk, e⟩ | rfl)
    · exact ⟨k, .inl hk, e⟩
    · exact ⟨i, .inr rfl, rfl⟩
  · rintro ⟨k, hk | rfl, e⟩
    · exact .inl ⟨k, hk, e⟩
    · exact .inr e.symm

theorem EvOK.step2 {b : Nat} {w w' : World} {v : Value} {e : Ev} (h : EvOK (fun k => b ≤ k ∧ k < w.heap.size) w v e) (hb : Below w.heap.size w w') : EvOK (fun k => b ≤ k ∧ k < w'.heap.size) w' v e := ⟨h.i1, h.i2, h.i3, (h.nd.below hb).wider fun k hk => ⟨hk.1, Nat.lt_of_lt_of_le hk.2 hb.size⟩⟩
theorem EvOK.from {b b' : Nat} {w : World} {v : Value} {e : Ev} (h : EvOK (fun k => b ≤ k ∧ k < w.heap.size) w v e) (hb : b' ≤ b) : EvOK (fun k => b' ≤ k ∧ k < w.heap.size) w v e := ⟨h.i1, h.i2, h.i3, h.nd.wider fun k hk => ⟨Nat.le_trans hb hk.1, hk.2⟩⟩

set_option maxRecDepth 20000 in
set_option maxHeartbeats 1000000 in
theorem event_c {w : World} {sb bl bh : Nat} {u v cv : Value} {l : List Sc} {r : List Rc} {i : Nat} {x : Rc} {c : List Nat} {F : Nat → Prop} (hS : SrcOK w sb bl bh u v l r) (hx : r[i]? = some x) (hv : Val l x) (hc : SL intT F w cv (c.map fun k : Nat => (k : Int))) (hcl : c.length ≤ 3) :
    Gives Tryd.prog 28 #[.pointer (some ⟨sb, 0, none⟩), .int .i64 (i : Int), cv] w fun y w' => Below w.heap.size w w' ∧ ∃ nv, y = .agg (evV (evOf l x (recI (c ++ [i]))) nv).toArray ∧ EvOK (fun k => w.heap.size ≤ k ∧ k < w'.heap.size) w' nv (evOf l x (recI (c ++ [i]))) := by
  obtain ⟨C, ccap, hcv, _⟩ := hc.form
  subst hcv
  obtain ⟨hsc, hsok⟩ := hv.sc
  have hss := hS.ss
  have hsr := hS.sr
  obtain ⟨A, cap, hA, _⟩ := hsr.form
  subst hA
  obtain ⟨B, bcap, hB, _⟩ := hss.form
  subst hB
  have hil := (List.getElem?_eq_some_iff.1 hx).1
  have hsl := (List.getElem?_eq_some_iff.1 hsc).1
  obtain ⟨ad, rfl⟩ := hsr.addr (by omega)
  obtain ⟨bd, rfl⟩ := hss.addr (by omega)
  have hmax := hsr.len.2.2
  have hmax2 := hss.len.2.2
  have hs0 := hv.comp.s1
  have hsi : ((x.scn.toNat : Nat) : Int) = x.scn := by omega
  refine gives_of (vs := [.pointer (some ⟨sb, 0, none⟩), .int .i64 (i : Int), .slice C (c.map fun k : Nat => (k : Int)).length ccap]) [(0, none, _), (1, none, _), (2, none, _)] Tryd.func28 rfl Tryd.ntmps28 rfl rfl ?_
  refine CW.seq (CW.region ?_)
  refine TW.alloc rfl rfl zc31 ?_
  rintro g6 w1 f1
  refine TW.nil (KW.pick [0, 1, 2, 6] [(0, _, _), (1, _, _), (2, _, _), (6, _, _)] rfl (KW.then_ ?_))
  refine CW.seq (CW.region ?_)
  refine TW.move rfl rfl rfl ct ?_
  refine TW.nilCheck rfl rfl rfl ct ?_
  refine TW.fieldAddr rfl rfl fo57_1 rfl ct ?_
  have hS1 := hS.below f1.below
  obtain ⟨xv, hcells, hok⟩ := SR.get hS1.sr hx
  obtain ⟨X1, xcap, hX1, _⟩ := hok.ct.form
  subst hX1
  refine TW.load rfl rfl one23 rfl ct (fun _ => hS1.blk.fld rfl) ?_
  refine TW.move rfl rfl rfl ct ?_
  refine TW.indexAddr rfl rfl Tryd.underlying23 sz35 rfl ct rfl ct (fun _ => by (try dsimp only); omega) ?_
  refine TW.loadS _ rfl rfl Tryd.underlying35 sz35 rfl ct (fun _ => hcells) rfl ?_
  refine TW.newVar rfl zc35 rfl sz35 rfl rfl ?_
  rintro g7 w2 f2
  refine TW.nil (KW.pick [0, 1, 2, 6, 7] [(0, _, _), (1, _, _), (2, _, _), (6, _, _), (7, _, _)] rfl (KW.then_ ?_))
  refine CW.seq ?_
  refine CW.drawR mixed fun W3 hb3 => ?_
  refine RW.draw .weak 9 (by kernel_rfl) (by kernel_rfl) rfl rfl hb3 ?_
  refine DW.move rfl rfl rfl ct ?_
  refine DW.nilCheck rfl rfl rfl ct ?_
  refine DW.fieldAddr rfl rfl fo57_0 rfl ct ?_
  have hS2 := hS1.below f2.below
  obtain ⟨hcells2, q1, q2, q3⟩ := SS.get hS2.ss hsc
  rw [hsi] at hcells2
  refine DW.load rfl rfl one22 rfl ct (fun _ => hS2.blk.fld rfl) ?_
  refine DW.fieldAddr rfl rfl fo35_0 rfl ct ?_
  refine DW.load rfl rfl one3 rfl ct (fun _ => f2.blk.fld rfl) ?_
  refine DW.indexAddr rfl rfl Tryd.underlying22 sz50 rfl ct rfl ct (fun _ => by (try dsimp only); omega) ?_
  refine DW.loadS _ rfl rfl Tryd.underlying50 sz50 rfl ct (fun _ => hcells2) rfl ?_
  refine DW.allocP rfl zc50 ?_
  refine DW.nil (DW.finX [0, 1, 2, 6, 7, 24] [(0, _, _), (1, _, _), (2, _, _), (6, _, _), (7, _, _), (24, _, _)] rfl [8] rfl fun vs w3 b3 hs3 => KW.rk' ?_)
  obtain ⟨v8, rfl, h8⟩ := Sats.one hs3
  obtain ⟨g8, rfl, hg8, hB8⟩ := h8
  refine RW.one (by kernel_rfl) (by kernel_rfl) rfl ?_
  refine TW.storeBlkF rfl rfl rfl hB8 sz50 rfl rfl rfl ?_
  rintro w4 hB4 hbut4 hsz4
  refine TW.nil (KW.pick [0, 1, 2, 6, 7, 8] [(0, _, _), (1, _, _), (2, _, _), (6, _, _), (7, _, _), (8, _, _)] rfl (KW.rk ?_))
  refine RW.end rfl (KW.pick [0, 1, 2, 6, 7, 8] [(0, _, _), (1, _, _), (2, _, _), (6, _, _), (7, _, _), (8, _, _)] rfl (KW.then_ ?_))
  refine CW.seq (CW.region ?_)
  refine TW.move rfl rfl rfl ct ?_
  have hb4 : Below w2.heap.size w2 w4 := But.below b3 hbut4 hg8
  have hb04 : Below w.heap.size w w4 := (f1.below.step f2.below).step hb4
  have hf6 : Blk w4 g6 31 [.int .i64 0, .int .i64 0, .int .i64 0, .slice none 0 0] := (f1.blk.next f2.below).next hb4
  have hf7 := f2.blk.next hb4
  have hcl' : (c.map fun k : Nat => (k : Int)).length ≤ 1000000 := by simp; omega
  refine TW.call0 (cap := []) rfl rfl en30 rfl (Args.cons rfl ct Args.nil) (cloneO_c (hc.below hb04) hcl') ?_
  rintro y5 w5 ⟨hb5, hO5, hfr5⟩
  refine TW.move rfl rfl rfl ct ?_
  refine TW.buildSlice 3 _ rfl rfl rfl eo29 (Args.cons rfl ct Args.nil) rfl rfl rfl rfl rfl ?_
  rintro g6b w6 f6
  have hO6 := hO5.below f6.below
  refine TW.append [.int .i64 (i : Int)] rfl rfl go29 rfl hO6 rfl rfl (fun j u hj => ⟨_, rfl, f6.blk.fld hj⟩) (fun u hu => by simp at hu; subst hu; rfl) (by simp; omega) (by omega) ?_
  rintro v7 w7 hO7 hg7 hn7
  refine TW.assign rfl rfl rfl ct ?_
  refine TW.nil (KW.pick [0, 1, 2, 6, 7, 8, 9] [(0, _, _), (1, _, _), (2, _, _), (6, _, _), (7, _, _), (8, _, _), (9, _, _)] rfl (KW.then_ ?_))
  refine CW.seq (CW.region ?_)
  refine TW.move rfl rfl rfl ct ?_
  have hb46 := hb5.step f6.below
  have hfr6 : ∀ g, y5.ownBlock = some g → w4.heap.size ≤ g := hfr5
  have hb47 : Below w4.heap.size w4 w7 := hb46.grown hg7 hb46.size hfr6
  have hfr7 : ∀ g, v7.ownBlock = some g → w4.heap.size ≤ g := fun g hg => by
    rcases hn7 with h | h
    · exact hfr6 g (by rw [← h]; exact hg)
    · rw [h] at hg; cases hg; exact hb46.size
  obtain ⟨zs, hzs⟩ : ∃ zs : List Int, zs = (c.map fun k : Nat => (k : Int)) ++ [(i : Int)] := ⟨_, rfl⟩
  have hzl : zs.length = c.length + 1 := by rw [hzs]; simp
  have hO7' : OwnS w7 3 1 v7 zs.length (zs.map (Value.int .i64)) := by
    rw [hzs]
    simpa using hO7
  refine TW.call0 (cap := []) rfl rfl en24 rfl (Args.cons rfl ct Args.nil) (sort_c hO7' (by omega)) ?_
  rintro y8 w8 ⟨hg8', hO8⟩
  have hb48 : Below w4.heap.size w4 w8 := hb47.grown hg8' hb47.size hfr7
  have hn7a : v7.ownBlock ≠ some g7 := fun e => by have := hfr7 _ e; have := hf7.lt; omega
  have hn8a : v7.ownBlock ≠ some g8 := fun e => by have := hfr7 _ e; have := hB4.lt; omega
  have hf78 := hf7.next hb48
  have hf88 := hB4.next hb48
  have hv2 := hv.comp.t1
  have hv3 := hv.comp.t2
  have hv4 := hsok.e1
  have hv5 := hsok.e2
  obtain ⟨ms, hms⟩ : ∃ ms : List Int, ms = zs.mergeSort fun x y => decide (x ≤ y) := ⟨_, rfl⟩
  have hml : ms.length = zs.length := by rw [hms, List.length_mergeSort]
  rw [← hms, ← hml] at hO8
  refine TW.nil (KW.pick [0, 1, 2, 6, 7, 8, 9] [(0, _, _), (1, _, _), (2, _, _), (6, _, _), (7, _, _), (8, _, _), (9, _, _)] rfl (KW.then_ ?_))
  refine CW.seq ?_
  refine CW.drawR mixed fun W9 hW9 => ?_
  refine RW.drawRow v7.ownBlock 45 14 (by kernel_rfl) (by kernel_rfl) rfl rfl hW9 ?_
  refine DR.fieldAddr rfl rfl fo50_1 rfl ct ?_
  refine DR.load rfl rfl one3 rfl ct (fun _ => ⟨hf88.fld rfl, hn8a⟩) ?_
  refine DR.fieldAddr rfl rfl fo35_3 rfl ct ?_
  refine DR.load rfl rfl one3 rfl ct (fun _ => ⟨hf78.fld rfl, hn7a⟩) ?_
  refine DR.fieldAddr rfl rfl fo50_2 rfl ct ?_
  refine DR.load rfl rfl one3 rfl ct (fun _ => ⟨hf88.fld rfl, hn8a⟩) ?_
  refine DR.sub rfl rfl rfl ct rfl ct (fun _ => by (try dsimp only); omega) ?_
  refine DR.fieldAddr rfl rfl fo35_3 rfl ct ?_
  refine DR.load rfl rfl one3 rfl ct (fun _ => ⟨hf78.fld rfl, hn7a⟩) ?_
  refine DR.fieldAddr rfl rfl fo50_2 rfl ct ?_
  refine DR.load rfl rfl one3 rfl ct (fun _ => ⟨hf88.fld rfl, hn8a⟩) ?_
  refine DR.add rfl rfl rfl ct rfl ct (fun _ => by (try dsimp only); omega) ?_
  refine DR.move rfl rfl rfl ct ?_
  refine DR.callTok (cap := []) (fun y W => OwnS W 3 1 y (Lib.compact ms).length ((Lib.compact ms).map (Value.int .i64)) ∧ y.ownBlock = v7.ownBlock) (fun y W W' hb h => ⟨h.1.below hb, h.2⟩) rfl rfl rfl en25 rfl ct (DArgs.cons rfl ct DArgs.nil) (fun _ w' hg' hk' => (compact_c (hO8.kept fun g hg => hk' g hg (hO8.lt hg)) (by omega)).mono fun y w'' ⟨a1, a2, a3⟩ => ⟨a1, a2, a3⟩) ?_
  refine DR.nil (DR.finX [0, 1, 2, 6, 7, 8, 9, 33, 38, 43] [(0, _, _), (1, _, _), (2, _, _), (6, _, _), (7, _, _), (8, _, _), (9, _, _), (33, _, _), (38, _, _), (43, _, _)] rfl [45] rfl fun vs w9 hg9 hs9 => KW.rk' ?_)
  obtain ⟨v45, rfl, h45⟩ := Sats.one hs9
  obtain ⟨h45, h45b⟩ : OwnS w9 3 1 v45 (Lib.compact ms).length ((Lib.compact ms).map (Value.int .i64)) ∧ v45.ownBlock = v7.ownBlock := h45
  have hrec : Lib.compact ms = recI (c ++ [i]) := by rw [hms, hzs]; exact recI_eq c i
  rw [hrec] at h45
  obtain ⟨N1, ncap, hN1, _⟩ := h45.form
  subst hN1
  have hn6a : v7.ownBlock ≠ some g6 := fun e => by have := hfr7 _ e; have := hf6.lt; omega
  have hf69 := GB.blk hg9 (hf6.next hb48) hn6a
  refine RW.one (by kernel_rfl) (by kernel_rfl) rfl ?_
  refine TW.build [0, 1, 2, 3] [.tmp 33, .tmp 38, .tmp 43, .tmp 45] [.int .i64 (scOf l x).off, .int .i64 (x.time - (scOf l x).err), .int .i64 (x.time + (scOf l x).err), .slice N1 (recI (c ++ [i])).length ncap] rfl rfl rfl (Args.cons rfl ct (Args.cons rfl ct (Args.cons rfl ct (Args.cons rfl ct Args.nil)))) (by kernel_rfl) ?_
  refine TW.nil (KW.pick [0, 1, 2, 6, 7, 8, 9, 46] [(0, _, _), (1, _, _), (2, _, _), (6, _, _), (7, _, _), (8, _, _), (9, _, _), (46, _, _)] rfl (KW.rk ?_))
  refine RW.one (by kernel_rfl) (by kernel_rfl) rfl ?_
  refine TW.storeBlkF rfl rfl rfl hf69 sz31 rfl rfl rfl ?_
  rintro w10 hB10 hbut10 hsz10
  refine TW.nil (KW.pick [0, 1, 2, 6, 7, 8, 9] [(0, _, _), (1, _, _), (2, _, _), (6, _, _), (7, _, _), (8, _, _), (9, _, _)] rfl (KW.rk ?_))
  refine RW.end rfl (KW.pick [0, 1, 2, 6, 7, 8, 9] [(0, _, _), (1, _, _), (2, _, _), (6, _, _), (7, _, _), (8, _, _), (9, _, _)] rfl (KW.then_ ?_))
  refine CW.ret ?_
  have hb09 : Below w.heap.size w w9 := (hb04.step hb48).grown hg9 (hb04.step hb48).size (fun q hq => by have := hfr7 q hq; have := hb04.size; omega)
  have hb10 : Below w.heap.size w w10 := hb09.grown hbut10 hb09.size (fun q hq => by cases hq; have := f1.at_; omega)
  have hfr9 : ∀ g, (Value.slice N1 (recI (c ++ [i])).length ncap).ownBlock = some g → g ≠ g6 := fun g hg e => hn6a (by rw [← h45b, hg, e])
  refine retCS Tryd.results28 Tryd.underlying31 (by exact sz31) rfl (hB10) (⟨hb10, _, rfl, q2, ⟨by show (-9223372036854775808 : Int) ≤ x.time - _; omega, by show x.time - _ ≤ (9223372036854775807 : Int); omega⟩, ⟨by show (-9223372036854775808 : Int) ≤ x.time + _; omega, by show x.time + _ ≤ (9223372036854775807 : Int); omega⟩, ?_⟩)
  have hI := sl_allI hc
  have h45c : OwnS w10 3 1 (.slice N1 (recI (c ++ [i])).length ncap) (recI (c ++ [i])).length ((recI (c ++ [i])).map (Value.int .i64)) := h45.kept fun g hg => hbut10.block g (h45.lt hg) (fun e => hfr9 g hg (by cases e; rfl))
  refine OwnS.toInts h45c (fun z hz => ?_) (fun g hg => ⟨by have := hfr7 g (by rw [← h45b]; exact hg); have := hb04.size; omega, h45c.lt hg⟩) (by have := Lib.compact_length_le ms; rw [hrec] at this; show (recI (c ++ [i])).length ≤ _; omega)
  obtain ⟨j, hj, rfl⟩ := mem_recI.1 hz
  rcases List.mem_append.1 hj with hj | hj
  · exact hI _ (List.mem_map.2 ⟨j, hj, rfl⟩)
  · rw [List.mem_singleton] at hj
    subst hj
    have := hS.few
    exact ⟨by omega, by omega⟩
end Go.Proofs.YthjcgmjcpmodlaaDoor

namespace Go.Proofs.YthjcgmjcpmodlaaDoor
open Go.PF Go.RowKit Go.Ord Go.Sort

end Go.Proofs.YthjcgmjcpmodlaaDoor

namespace Go.Proofs.YthjcgmjcpmodlaaDoor
open Go.PF Go.RowKit Go.Ord Go.Sort

theorem insS_parts {n : Int} {s : List Int} (hs : ∀ y ∈ s, n < y) : ∀ {p : List Int}, (∀ y ∈ p, y < n) → insS n (p ++ s) = p ++ n :: s
  | [], _ => by
    cases s with
    | nil => rfl
    | cons y s =>
      have := hs y (by simp)
      simp only [List.nil_append]
      unfold insS
      rw [if_neg (by omega), if_neg (by omega)]
  | x :: p, hp => by
    have := hp x (by simp)
    simp only [List.cons_append]
    unfold insS
    rw [if_pos this, insS_parts hs fun y hy => hp y (by simp [hy])]
theorem insS_has {n : Int} : ∀ {l : List Int}, Inc l → n ∈ l → insS n l = l
  | [], _, h => by cases h
  | y :: l, hl, h => by
    have hl' := List.pairwise_cons.1 hl
    unfold insS
    rcases List.mem_cons.1 h with rfl | h
    · rw [if_neg (by omega), if_pos rfl]
    · have := hl'.1 n h
      rw [if_pos this, insS_has hl'.2 h]

end Go.Proofs.YthjcgmjcpmodlaaDoor

namespace Go.Proofs.YthjcgmjcpmodlaaDoor
open Go.PF Go.RowKit Go.Ord Go.Sort

set_option maxRecDepth 20000 in
theorem rof_c {w : World} {u v nv : Value} {l : List Sc} {x : Rc} {needs : List Int} {F G H : Nat → Prop} (hl : SL scT G w u l) (hx : RcOK F w v x) (hv : Val l x) (hn : SL intT H w nv needs) :
    Gives Tryd.prog 13 #[u, .agg (rcV x v).toArray, nv] w fun y w' => Below w.heap.size w w' ∧ y = .agg (evV (evOf l x needs) nv).toArray := by
  obtain ⟨hsc, hsok⟩ := hv.sc
  have hct := hx.ct
  obtain ⟨X1, xcap, hX1, _⟩ := hct.form
  subst hX1
  obtain ⟨N1, ncap, hN1, _⟩ := hn.form
  subst hN1
  obtain ⟨B, bcap, hB, _⟩ := hl.form
  subst hB
  have hsl := (List.getElem?_eq_some_iff.1 hsc).1
  obtain ⟨bd, rfl⟩ := hl.addr (by omega)
  have hmax2 := hl.len.2.2
  have hs0 := hv.comp.s1
  have hsi : ((x.scn.toNat : Nat) : Int) = x.scn := by omega
  have hv2 := hv.comp.t1
  have hv3 := hv.comp.t2
  have hv4 := hsok.e1
  have hv5 := hsok.e2
  refine gives_of (vs := [.slice (some bd) l.length bcap, .agg (rcV x (.slice X1 x.cont.length xcap)).toArray, .slice N1 needs.length ncap]) [(0, none, _), (1, none, _), (2, none, _)] Tryd.func13 rfl Tryd.ntmps13 rfl rfl ?_
  refine CW.seq (CW.region ?_)
  refine TW.box rfl rfl rfl rfl ?_
  rintro g1 w1 f1
  refine TW.alloc rfl rfl zc31 ?_
  rintro g2 w2 f2
  refine TW.nil (KW.pick [0, 1, 2, 4, 6] [(0, _, _), (1, _, _), (2, _, _), (4, _, _), (6, _, _)] rfl (KW.then_ ?_))
  refine CW.seq (CW.region ?_)
  refine TW.move rfl rfl rfl ct ?_
  refine TW.fieldAddr rfl rfl fo35_0 rfl ct ?_
  have hb2 := f1.below.step f2.below
  obtain ⟨hcells2, q1, q2, q3⟩ := SS.get (hl.below hb2) hsc
  rw [hsi] at hcells2
  refine TW.load rfl rfl one3 rfl ct (fun _ => (f1.blk.next f2.below).fld rfl) ?_
  refine TW.indexAddr rfl rfl Tryd.underlying22 sz50 rfl ct rfl ct (fun _ => by (try dsimp only); omega) ?_
  refine TW.loadS _ rfl rfl Tryd.underlying50 sz50 rfl ct (fun _ => hcells2) rfl ?_
  refine TW.newVar rfl zc50 rfl sz50 rfl rfl ?_
  rintro g3 w3 f3
  refine TW.nil (KW.pick [0, 1, 2, 4, 6, 7] [(0, _, _), (1, _, _), (2, _, _), (4, _, _), (6, _, _), (7, _, _)] rfl (KW.then_ ?_))
  refine CW.seq (CW.region ?_)
  refine TW.fieldAddr rfl rfl fo50_1 rfl ct ?_
  have f13 := (f1.blk.next f2.below).next f3.below
  refine TW.load rfl rfl one3 rfl ct (fun _ => f3.blk.fld rfl) ?_
  refine TW.fieldAddr rfl rfl fo35_3 rfl ct ?_
  refine TW.load rfl rfl one3 rfl ct (fun _ => f13.fld rfl) ?_
  refine TW.fieldAddr rfl rfl fo50_2 rfl ct ?_
  refine TW.load rfl rfl one3 rfl ct (fun _ => f3.blk.fld rfl) ?_
  refine TW.sub rfl rfl rfl ct rfl ct (fun _ => by (try dsimp only); omega) ?_
  refine TW.fieldAddr rfl rfl fo35_3 rfl ct ?_
  refine TW.load rfl rfl one3 rfl ct (fun _ => f13.fld rfl) ?_
  refine TW.fieldAddr rfl rfl fo50_2 rfl ct ?_
  refine TW.load rfl rfl one3 rfl ct (fun _ => f3.blk.fld rfl) ?_
  refine TW.add rfl rfl rfl ct rfl ct (fun _ => by (try dsimp only); omega) ?_
  refine TW.move rfl rfl rfl ct ?_
  refine TW.build [0, 1, 2, 3] [.tmp 14, .tmp 19, .tmp 24, .tmp 25] [.int .i64 (scOf l x).off, .int .i64 (x.time - (scOf l x).err), .int .i64 (x.time + (scOf l x).err), .slice N1 needs.length ncap] rfl rfl rfl (Args.cons rfl ct (Args.cons rfl ct (Args.cons rfl ct (Args.cons rfl ct Args.nil)))) (by kernel_rfl) ?_
  refine TW.storeBlkF rfl rfl rfl (f2.blk.next f3.below) sz31 rfl rfl rfl ?_
  rintro w4 hB4 hbut4 hsz4
  refine TW.nil (KW.pick [0, 1, 2, 4, 6, 7] [(0, _, _), (1, _, _), (2, _, _), (4, _, _), (6, _, _), (7, _, _)] rfl (KW.then_ ?_))
  refine CW.ret ?_
  have hb3 := hb2.step f3.below
  refine retCS Tryd.results13 Tryd.underlying31 (by exact sz31) rfl (hB4) (⟨hb3.grown hbut4 hb3.size (fun q hq => by cases hq; have := f2.at_; have := f1.below.size; omega), rfl⟩)

theorem key_len (e : Ev) : (keyE e).length = 4 + e.needs.length := by simp [keyE]; omega
theorem key_pre {e f : Ev} {i : Nat} (h0 : 0 < i) (h : (keyE e).take i = (keyE f).take i) (hi : i = (keyE e).length ∨ i = (keyE f).length) : e = f := by
  have h1 : (keyE e)[0]? = (keyE f)[0]? := by
    have := congrArg (fun z => z[0]?) h
    simpa [List.getElem?_take, h0] using this
  have h2 : e.needs.length = f.needs.length := by simp [keyE] at h1; omega
  have h3 : (keyE e).length = (keyE f).length := by rw [key_len, key_len, h2]
  apply keyE_inj
  rw [List.take_of_length_le (by omega), List.take_of_length_le (by omega)] at h
  exact h

set_option maxRecDepth 20000 in
theorem rcmp_c {w : World} {v u : Value} {e f : Ev} {F G : Nat → Prop} (he : EvOK F w v e) (hf : EvOK G w u f) (hne : e.needs.length ≤ 1000000) (hnf : f.needs.length ≤ 1000000) :
    Gives Tryd.prog 10 #[.agg (evV e v).toArray, .agg (evV f u).toArray] w fun x w' => Below w.heap.size w w' ∧ x = .int .i64 (cmpE e f) := by
  obtain ⟨A, cap, hv, _⟩ := he.nd.form
  subst hv
  obtain ⟨B, bcap, hu, _⟩ := hf.nd.form
  subst hu
  have hkle := key_len e
  have hklf := key_len f
  have hIe := sl_allI he.nd
  have hIf := sl_allI hf.nd
  refine gives_of (vs := [.agg (evV e (.slice A e.needs.length cap)).toArray, .agg (evV f (.slice B f.needs.length bcap)).toArray]) [(0, none, _), (1, none, _)] Tryd.func10 rfl Tryd.ntmps10 rfl rfl ?_
  refine CW.seq (CW.region ?_)
  refine TW.box rfl rfl rfl rfl ?_
  rintro g1 w1 f1
  refine TW.box rfl rfl rfl rfl ?_
  rintro g2 w2 f2
  refine TW.assign rfl rfl rfl ct ?_
  refine TW.nil (KW.pick [0, 1, 2, 3, 4] [(0, _, _), (1, _, _), (2, _, _), (3, _, _), (4, _, _)] rfl (KW.then_ ?_))
  refine CW.seq (CW.region ?_)
  refine TW.fieldAddr rfl rfl fo31_3 rfl ct ?_
  have hb2 := f1.below.step f2.below
  have f12 := f1.blk.next f2.below
  refine TW.load rfl rfl one29 rfl ct (fun _ => f12.fld rfl) ?_
  refine TW.lenSlice rfl rfl Tryd.underlying29 rfl ct ?_
  refine TW.fieldAddr rfl rfl fo31_0 rfl ct ?_
  refine TW.load rfl rfl one3 rfl ct (fun _ => f12.fld rfl) ?_
  refine TW.fieldAddr rfl rfl fo31_1 rfl ct ?_
  refine TW.load rfl rfl one3 rfl ct (fun _ => f12.fld rfl) ?_
  refine TW.fieldAddr rfl rfl fo31_2 rfl ct ?_
  refine TW.load rfl rfl one3 rfl ct (fun _ => f12.fld rfl) ?_
  refine TW.buildSlice 3 _ rfl rfl rfl eo29 (Args.cons rfl ct (Args.cons rfl ct (Args.cons rfl ct (Args.cons rfl ct Args.nil)))) rfl rfl rfl rfl rfl ?_
  rintro g3 w3 f3
  refine TW.fieldAddr rfl rfl fo31_3 rfl ct ?_
  have he3 := he.nd.below (hb2.step f3.below)
  refine TW.load rfl rfl one29 rfl ct (fun _ => (f12.next f3.below).fld rfl) ?_
  refine TW.append (e.needs.map (Value.int .i64)) rfl rfl go29 rfl (OwnS.of_blk (n := 4) f3.blk rfl (by omega)) rfl (by simp) (sl_news he3) (ints_one _) (by omega) (by omega) ?_
  rintro v4 w4 hO4 hg4 hn4
  have hb3 := hb2.step f3.below
  have hb4 : Below w2.heap.size w2 w4 := f3.below.grown hg4 f3.below.size (fun q hq => by simp [Value.ownBlock] at hq; have := f3.at_; omega)
  have f24 := f2.blk.next hb4
  refine TW.assign rfl rfl rfl ct ?_
  refine TW.nil (KW.pick [0, 1, 2, 3, 4, 5] [(0, _, _), (1, _, _), (2, _, _), (3, _, _), (4, _, _), (5, _, _)] rfl (KW.then_ ?_))
  refine CW.seq (CW.region ?_)
  refine TW.fieldAddr rfl rfl fo31_3 rfl ct ?_
  refine TW.load rfl rfl one29 rfl ct (fun _ => f24.fld rfl) ?_
  refine TW.lenSlice rfl rfl Tryd.underlying29 rfl ct ?_
  refine TW.fieldAddr rfl rfl fo31_0 rfl ct ?_
  refine TW.load rfl rfl one3 rfl ct (fun _ => f24.fld rfl) ?_
  refine TW.fieldAddr rfl rfl fo31_1 rfl ct ?_
  refine TW.load rfl rfl one3 rfl ct (fun _ => f24.fld rfl) ?_
  refine TW.fieldAddr rfl rfl fo31_2 rfl ct ?_
  refine TW.load rfl rfl one3 rfl ct (fun _ => f24.fld rfl) ?_
  refine TW.buildSlice 3 _ rfl rfl rfl eo29 (Args.cons rfl ct (Args.cons rfl ct (Args.cons rfl ct (Args.cons rfl ct Args.nil)))) rfl rfl rfl rfl rfl ?_
  rintro g5 w5 f5
  refine TW.fieldAddr rfl rfl fo31_3 rfl ct ?_
  have hf5 := hf.nd.below ((hb2.step hb4).step f5.below)
  refine TW.load rfl rfl one29 rfl ct (fun _ => (f24.next f5.below).fld rfl) ?_
  refine TW.append (f.needs.map (Value.int .i64)) rfl rfl go29 rfl (OwnS.of_blk (n := 4) f5.blk rfl (by omega)) rfl (by simp) (sl_news hf5) (ints_one _) (by omega) (by omega) ?_
  rintro v6 w6 hO6 hg6 hn6
  refine TW.assign rfl rfl rfl ct ?_
  refine TW.nil (KW.pick [0, 1, 2, 3, 4, 5, 6] [(0, _, _), (1, _, _), (2, _, _), (3, _, _), (4, _, _), (5, _, _), (6, _, _)] rfl (KW.then_ ?_))
  refine CW.seq (CW.seq (CW.region ?_))
  refine TW.assign rfl rfl rfl ct ?_
  refine TW.nil (KW.pick [0, 1, 2, 3, 4, 5, 6, 7] [(0, _, _), (1, _, _), (2, _, _), (3, _, _), (4, _, _), (5, _, _), (6, _, _), (7, _, _)] rfl (KW.then_ ?_))
  refine CW.block ?_
  have hb46 : Below w4.heap.size w4 w6 := f5.below.grown hg6 f5.below.size (fun q hq => by simp [Value.ownBlock] at hq; have := f5.at_; omega)
  have hb6 := (hb2.step hb4).step hb46
  have hkI : ∀ (z : Ev), I64 z.office → I64 z.low → I64 z.high → (∀ y ∈ z.needs, I64 y) → z.needs.length ≤ 1000000 → ∀ y ∈ keyE z, I64 y := fun z h1 h2 h3 h4 h5 y hy => by
    unfold keyE at hy
    simp only [List.mem_cons] at hy
    rcases hy with rfl | rfl | rfl | rfl | hy
    · exact ⟨by show (-9223372036854775808 : Int) ≤ _; omega, by show _ ≤ (9223372036854775807 : Int); omega⟩
    · exact h1
    · exact h2
    · exact h3
    · exact h4 y hy
  have hX6 : SI w6 v4 (keyE e) := si_step (own_si (e := 3) (by rw [key_len]; exact hO4) (hkI e he.i1 he.i2 he.i3 hIe hne) (by omega)) hb46
  have hY6 : SI w6 v6 (keyE f) := own_si (e := 3) (by rw [key_len]; exact hO6) (hkI f hf.i1 hf.i2 hf.i3 hIf hnf) (by omega)
  obtain ⟨X, xcap, hX, _⟩ := hX6.form
  subst hX
  obtain ⟨Y, ycap, hY, _⟩ := hY6.form
  subst hY
  obtain ⟨xd, rfl⟩ := hX6.addr (by omega)
  obtain ⟨yd, rfl⟩ := hY6.addr (by omega)
  refine CW.loopS (fun k : Nat => [(5, none, .slice (some xd) (keyE e).length xcap), (6, none, .slice (some yd) (keyE f).length ycap), (7, none, .int .i64 (k : Int))])
    (fun k W => k ≤ (keyE e).length ∧ k ≤ (keyE f).length ∧ (keyE e).take k = (keyE f).take k ∧ Below w6.heap.size w6 W) (fun k => (keyE e).length - k) 0 [5, 6, 7] ⟨by omega, by omega, by simp, Below.refl _ _⟩ rfl ?_
  rintro k W ⟨hk, hkf, hpre, hBW⟩
  have hXW := hX6.below hBW
  have hYW := hY6.below hBW
  refine CW.seq (CW.seq (CW.region ?_))
  refine TW.move rfl rfl rfl ct ?_
  refine TW.move rfl rfl rfl ct ?_
  refine TW.lenSlice rfl rfl Tryd.underlying29 rfl ct ?_
  refine TW.lss rfl rfl rfl ct rfl ct ?_
  refine TW.move rfl rfl rfl ct ?_
  refine TW.move rfl rfl rfl ct ?_
  refine TW.move rfl rfl rfl ct ?_
  refine TW.lenSlice rfl rfl Tryd.underlying29 rfl id ?_
  refine TW.lss rfl rfl rfl id rfl id ?_
  refine TW.pickAnd rfl rfl rfl ct rfl pAnd0 ?_
  refine TW.nil (KW.pick [5, 6, 7, 43] [(5, _, _), (6, _, _), (7, _, _), (43, _, _)] rfl (KW.then_ ?_))
  refine CW.cond rfl (fun hin => ?_) (fun hout => ?_)
  · have hin' : k < (keyE e).length ∧ k < (keyE f).length := by simp at hin; omega
    obtain ⟨x, hx, _⟩ := getx (l := keyE e) (k := k) hin'.1
    obtain ⟨y, hy, _⟩ := getx (l := keyE f) (k := k) hin'.2
    obtain ⟨h1, h1e⟩ := List.getElem?_eq_some_iff.1 hx
    obtain ⟨h2, h2e⟩ := List.getElem?_eq_some_iff.1 hy
    have hda : (keyE e).drop k = x :: (keyE e).drop (k + 1) := by rw [← h1e, ← List.drop_eq_getElem_cons h1]
    have hdb : (keyE f).drop k = y :: (keyE f).drop (k + 1) := by rw [← h2e, ← List.drop_eq_getElem_cons h2]
    have hcmp : cmpE e f = cmpL (x :: (keyE e).drop (k + 1)) (y :: (keyE f).drop (k + 1)) := by unfold cmpE; rw [cmpL_take hpre, hda, hdb]
    refine CW.skip (KW.then_ (CW.seq (CW.block (CW.seq (CW.seq (CW.draw mixed (by kernel_rfl) ?_))))))
    refine DW.move rfl rfl rfl ct ?_
    refine DW.move rfl rfl rfl ct ?_
    refine DW.indexAddr rfl rfl Tryd.underlying29 sz3 rfl ct rfl ct (fun _ => by (try dsimp only); omega) ?_
    refine DW.load rfl rfl one3 rfl ct (fun _ => hXW.getI hx) ?_
    refine DW.move rfl rfl rfl ct ?_
    refine DW.move rfl rfl rfl ct ?_
    refine DW.indexAddr rfl rfl Tryd.underlying29 sz3 rfl ct rfl ct (fun _ => by (try dsimp only); omega) ?_
    refine DW.load rfl rfl one3 rfl ct (fun _ => hYW.getI hy) ?_
    refine DW.lss rfl rfl rfl ct rfl ct ?_
    refine DW.nil (DW.fin [5, 6, 7, 54] [(5, _, _), (6, _, _), (7, _, _), (54, _, _)] rfl (fun w7 b7 => KW.then_ ?_))
    refine CW.condP rfl (fun hlt => ?_) (fun hge => ?_)
    · refine CW.seq (CW.region ?_)
      refine TW.assign rfl rfl rfl ct ?_
      refine TW.nil (KW.pick [4, 5, 6, 7] [(4, _, _), (5, _, _), (6, _, _), (7, _, _)] rfl (KW.then_ ?_))
      refine CW.ret (KW.thenR (KW.blockR (KW.thenR (KW.thenR (KW.blockR (KW.thenR ?_))))))
      refine ret1 Tryd.results10 rfl (⟨(hb6.step hBW).step b7, ?_⟩)
      rw [hcmp]
      unfold cmpL
      rw [if_pos hlt]
    refine CW.skip (KW.then_ (CW.seq (CW.draw mixed (by kernel_rfl) ?_)))
    refine DW.move rfl rfl rfl ct ?_
    refine DW.move rfl rfl rfl ct ?_
    refine DW.indexAddr rfl rfl Tryd.underlying29 sz3 rfl ct rfl ct (fun _ => by (try dsimp only); omega) ?_
    refine DW.load rfl rfl one3 rfl ct (fun _ => (hXW.below b7).getI hx) ?_
    refine DW.move rfl rfl rfl ct ?_
    refine DW.move rfl rfl rfl ct ?_
    refine DW.indexAddr rfl rfl Tryd.underlying29 sz3 rfl ct rfl ct (fun _ => by (try dsimp only); omega) ?_
    refine DW.load rfl rfl one3 rfl ct (fun _ => (hYW.below b7).getI hy) ?_
    refine DW.gtr rfl rfl rfl ct rfl ct ?_
    refine DW.nil (DW.fin [5, 6, 7, 63] [(5, _, _), (6, _, _), (7, _, _), (63, _, _)] rfl (fun w8 b8 => KW.then_ ?_))
    refine CW.condP rfl (fun hgt => ?_) (fun hle => ?_)
    · refine CW.seq (CW.region ?_)
      refine TW.assign rfl rfl rfl ct ?_
      refine TW.nil (KW.pick [4, 5, 6, 7] [(4, _, _), (5, _, _), (6, _, _), (7, _, _)] rfl (KW.then_ ?_))
      refine CW.ret (KW.blockR (KW.thenR (KW.thenR (KW.blockR (KW.thenR ?_)))))
      refine ret1 Tryd.results10 rfl (⟨((hb6.step hBW).step b7).step b8, ?_⟩)
      rw [hcmp]
      unfold cmpL
      rw [if_neg hge, if_pos hgt]
    · refine CW.skip (KW.blockN (KW.then_ (CW.region ?_)))
      refine TW.move rfl rfl rfl ct ?_
      refine TW.add rfl rfl rfl ct rfl ct (fun _ => by (try dsimp only); omega) ?_
      refine TW.assign rfl rfl rfl ct ?_
      refine TW.nil (KW.pick [5, 6, 7] [(5, _, _), (6, _, _), (7, _, _)] rfl ?_)
      refine KW.round (k + 1) [5, 6, 7] rfl ⟨by omega, by omega, ?_, (hBW.step b7).step b8⟩ (by omega)
      rw [List.take_add_one, List.take_add_one, hx, hy, hpre, show x = y by omega]
  · have hout' : k = (keyE e).length ∨ k = (keyE f).length := by simp at hout; omega
    refine CW.exit (KW.thenX (KW.thenX (KW.blockX (KW.then_ (CW.seq (CW.region ?_))))))
    refine TW.assign rfl rfl rfl ct ?_
    refine TW.nil (KW.pick [4, 5, 6, 7] [(4, _, _), (5, _, _), (6, _, _), (7, _, _)] rfl (KW.then_ ?_))
    refine CW.ret ?_
    refine ret1 Tryd.results10 rfl (⟨hb6.step hBW, ?_⟩)
    rw [cmpE_zero.2 (key_pre (by omega) hpre hout')]
end Go.Proofs.YthjcgmjcpmodlaaDoor

namespace Go.Proofs.YthjcgmjcpmodlaaDoor
open Go.PF Go.RowKit Go.Ord Go.Sort

theorem take_all {α : Type} {a b : List α} {k : Nat} (h : a.take k = b.take k) (ha : k = a.length) (hl : a.length = b.length) : a = b := by
  rwa [List.take_of_length_le (by omega), List.take_of_length_le (by omega)] at h

theorem rints_c {w : World} {u v : Value} {a b : List Int} {F G : Nat → Prop} (ha : SL intT F w u a) (hb : SL intT G w v b) :
    Gives Tryd.prog 19 #[u, v] w fun x w' => Below w.heap.size w w' ∧ x = .bool (decide (a = b)) := by
  obtain ⟨A, cap, hu, _⟩ := ha.form
  subst hu
  obtain ⟨B, bcap, hv, _⟩ := hb.form
  subst hv
  have hmax := ha.len.2.2
  refine gives_of (vs := [.slice A a.length cap, .slice B b.length bcap]) [(0, none, _), (1, none, _)] Tryd.func19 rfl Tryd.ntmps19 rfl rfl ?_
  refine CW.seq (CW.region ?_)
  refine TW.assign rfl rfl rfl ct ?_
  refine TW.nil (KW.pick [0, 1, 4] [(0, _, _), (1, _, _), (4, _, _)] rfl (KW.then_ ?_))
  refine CW.seq (CW.seq (CW.region ?_))
  refine TW.move rfl rfl rfl ct ?_
  refine TW.lenSlice rfl rfl Tryd.underlying29 rfl ct ?_
  refine TW.move rfl rfl rfl ct ?_
  refine TW.lenSlice rfl rfl Tryd.underlying29 rfl ct ?_
  refine TW.neq rfl rfl rfl ct rfl ct ?_
  refine TW.nil (KW.pick [0, 1, 4, 10] [(0, _, _), (1, _, _), (4, _, _), (10, _, _)] rfl (KW.then_ ?_))
  refine CW.condP rfl (fun hne => ?_) (fun heq => ?_)
  · refine CW.seq (CW.region ?_)
    refine TW.assign rfl rfl rfl ct ?_
    refine TW.nil (KW.pick [0, 1, 4] [(0, _, _), (1, _, _), (4, _, _)] rfl (KW.then_ ?_))
    refine CW.ret (KW.thenR ?_)
    refine ret1 Tryd.results19 rfl (⟨Below.refl _ _, by rw [decide_eq_false fun e => hne (by rw [e])]⟩)
  have hlen : a.length = b.length := by omega
  refine CW.skip (KW.then_ (CW.seq (CW.seq (CW.region ?_))))
  refine TW.assign rfl rfl rfl ct ?_
  refine TW.nil (KW.pick [0, 1, 4, 5] [(0, _, _), (1, _, _), (4, _, _), (5, _, _)] rfl (KW.then_ ?_))
  refine CW.block ?_
  refine CW.loopS (fun k : Nat => [(0, none, .slice A a.length cap), (1, none, .slice B b.length bcap), (5, none, .int .i64 (k : Int))])
    (fun k W => k ≤ a.length ∧ Below w.heap.size w W ∧ a.take k = b.take k) (fun k => a.length - k) 0 [0, 1, 5] ⟨by omega, Below.refl _ _, by simp⟩ rfl ?_
  rintro k W ⟨hk, hB, hpre⟩
  have haW := ha.below hB
  have hbW := hb.below hB
  refine CW.seq (CW.seq (CW.region ?_))
  refine TW.move rfl rfl rfl ct ?_
  refine TW.move rfl rfl rfl ct ?_
  refine TW.lenSlice rfl rfl Tryd.underlying29 rfl ct ?_
  refine TW.lss rfl rfl rfl ct rfl ct ?_
  refine TW.nil (KW.pick [0, 1, 5, 14] [(0, _, _), (1, _, _), (5, _, _), (14, _, _)] rfl (KW.then_ ?_))
  refine CW.condP rfl (fun hlt => ?_) (fun hge => ?_)
  · obtain ⟨x, hx, _⟩ := getx (l := a) (k := k) (by omega)
    obtain ⟨y, hy, _⟩ := getx (l := b) (k := k) (by omega)
    obtain ⟨ad, rfl⟩ := haW.addr (by omega)
    obtain ⟨bd, rfl⟩ := hbW.addr (by omega)
    refine CW.skip (KW.then_ (CW.seq (CW.block (CW.seq (CW.draw mixed (by kernel_rfl) ?_)))))
    refine DW.move rfl rfl rfl ct ?_
    refine DW.move rfl rfl rfl ct ?_
    refine DW.indexAddr rfl rfl Tryd.underlying29 sz3 rfl ct rfl ct (fun _ => by (try dsimp only); omega) ?_
    refine DW.load rfl rfl one3 rfl ct (fun _ => haW.getI hx) ?_
    refine DW.move rfl rfl rfl ct ?_
    refine DW.move rfl rfl rfl ct ?_
    refine DW.indexAddr rfl rfl Tryd.underlying29 sz3 rfl ct rfl ct (fun _ => by (try dsimp only); omega) ?_
    refine DW.load rfl rfl one3 rfl ct (fun _ => hbW.getI hy) ?_
    refine DW.neq rfl rfl rfl ct rfl ct ?_
    refine DW.nil (DW.fin [0, 1, 5, 25] [(0, _, _), (1, _, _), (5, _, _), (25, _, _)] rfl (fun w3 b3 => KW.then_ ?_))
    refine CW.condP rfl (fun hd => ?_) (fun hs => ?_)
    · refine CW.seq (CW.region ?_)
      refine TW.assign rfl rfl rfl ct ?_
      refine TW.nil (KW.pick [0, 1, 4, 5] [(0, _, _), (1, _, _), (4, _, _), (5, _, _)] rfl (KW.then_ ?_))
      refine CW.ret (KW.blockR (KW.thenR (KW.thenR (KW.blockR (KW.thenR ?_)))))
      refine ret1 Tryd.results19 rfl (⟨hB.step b3, ?_⟩)
      rw [decide_eq_false fun e => ?_]
      subst e
      rw [hx] at hy
      cases hy
      exact hd rfl
    · have hxy : x = y := by omega
      refine CW.skip (KW.blockN (KW.then_ (CW.region ?_)))
      refine TW.move rfl rfl rfl ct ?_
      refine TW.add rfl rfl rfl ct rfl ct (fun _ => by (try dsimp only); omega) ?_
      refine TW.assign rfl rfl rfl ct ?_
      refine TW.nil (KW.pick [0, 1, 5] [(0, _, _), (1, _, _), (5, _, _)] rfl ?_)
      refine KW.round (k + 1) [0, 1, 5] rfl ⟨by omega, hB.step b3, ?_⟩ (by omega)
      rw [List.take_add_one, List.take_add_one, hx, hy, hpre, hxy]
  · refine CW.exit (KW.thenX (KW.thenX (KW.blockX (KW.then_ (CW.seq (CW.region ?_))))))
    refine TW.assign rfl rfl rfl ct ?_
    refine TW.nil (KW.pick [0, 1, 4, 5] [(0, _, _), (1, _, _), (4, _, _), (5, _, _)] rfl (KW.then_ ?_))
    refine CW.ret ?_
    refine ret1 Tryd.results19 rfl (⟨hB, by rw [decide_eq_true (take_all hpre (by omega) hlen)]⟩)

theorem SE.ok {F : Nat → Prop} {w : World} {ad : Addr} {n cap : Nat} {l : List Ev} (h : SL evT F w (.slice (some ad) n cap) l) {i : Nat} {e : Ev} (hx : l[i]? = some e) :
    ∃ A c, (∀ j u, (evV e (.slice A e.needs.length c))[j]? = some u → w.cell? ((ad.add ((i : Int).toNat * 4)).add j) = some u) ∧ EvOK F w (.slice A e.needs.length c) e := by
  obtain ⟨v, h1, h2, h3, h4, h5⟩ := SE.get h hx
  obtain ⟨A, c, hv, _⟩ := h5.form
  subst hv
  exact ⟨A, c, h1, h2, h3, h4, h5⟩

set_option maxRecDepth 20000 in
theorem rsame_c {w : World} {u v : Value} {a b : List Ev} {F G : Nat → Prop} (ha : SL evT F w u a) (hb : SL evT G w v b) (hna : ∀ e ∈ a, e.needs.length ≤ 1000000) (hnb : ∀ e ∈ b, e.needs.length ≤ 1000000) :
    Gives Tryd.prog 12 #[u, v] w fun x w' => Below w.heap.size w w' ∧ x = .bool (dec (a = b)) := by
  obtain ⟨A, cap, hu, _⟩ := ha.form
  subst hu
  obtain ⟨B, bcap, hv, _⟩ := hb.form
  subst hv
  have hmax := ha.len.2.2
  refine gives_of (vs := [.slice A a.length cap, .slice B b.length bcap]) [(0, none, _), (1, none, _)] Tryd.func12 rfl Tryd.ntmps12 rfl rfl ?_
  refine CW.seq (CW.region ?_)
  refine TW.assign rfl rfl rfl ct ?_
  refine TW.nil (KW.pick [0, 1, 4] [(0, _, _), (1, _, _), (4, _, _)] rfl (KW.then_ ?_))
  refine CW.seq (CW.seq (CW.region ?_))
  refine TW.move rfl rfl rfl ct ?_
  refine TW.lenSlice rfl rfl Tryd.underlying26 rfl ct ?_
  refine TW.move rfl rfl rfl ct ?_
  refine TW.lenSlice rfl rfl Tryd.underlying26 rfl ct ?_
  refine TW.neq rfl rfl rfl ct rfl ct ?_
  refine TW.nil (KW.pick [0, 1, 4, 10] [(0, _, _), (1, _, _), (4, _, _), (10, _, _)] rfl (KW.then_ ?_))
  refine CW.condP rfl (fun hne => ?_) (fun heq => ?_)
  · refine CW.seq (CW.region ?_)
    refine TW.assign rfl rfl rfl ct ?_
    refine TW.nil (KW.pick [0, 1, 4] [(0, _, _), (1, _, _), (4, _, _)] rfl (KW.then_ ?_))
    refine CW.ret (KW.thenR ?_)
    refine ret1 Tryd.results12 rfl (⟨Below.refl _ _, by rw [dec_neg fun e => hne (by rw [e])]⟩)
  have hlen : a.length = b.length := by omega
  refine CW.skip (KW.then_ (CW.seq (CW.seq (CW.region ?_))))
  refine TW.assign rfl rfl rfl ct ?_
  refine TW.nil (KW.pick [0, 1, 4, 5] [(0, _, _), (1, _, _), (4, _, _), (5, _, _)] rfl (KW.then_ ?_))
  refine CW.block ?_
  refine CW.loopS (fun k : Nat => [(0, none, .slice A a.length cap), (1, none, .slice B b.length bcap), (5, none, .int .i64 (k : Int))])
    (fun k W => k ≤ a.length ∧ Below w.heap.size w W ∧ a.take k = b.take k) (fun k => a.length - k) 0 [0, 1, 5] ⟨by omega, Below.refl _ _, by simp⟩ rfl ?_
  rintro k W ⟨hk, hB, hpre⟩
  have haW := ha.below hB
  have hbW := hb.below hB
  refine CW.seq (CW.seq (CW.region ?_))
  refine TW.move rfl rfl rfl ct ?_
  refine TW.move rfl rfl rfl ct ?_
  refine TW.lenSlice rfl rfl Tryd.underlying26 rfl ct ?_
  refine TW.lss rfl rfl rfl ct rfl ct ?_
  refine TW.nil (KW.pick [0, 1, 5, 14] [(0, _, _), (1, _, _), (5, _, _), (14, _, _)] rfl (KW.then_ ?_))
  refine CW.condP rfl (fun hlt => ?_) (fun hge => ?_)
  · obtain ⟨x, hx, hxm⟩ := getx (l := a) (k := k) (by omega)
    obtain ⟨y, hy, hym⟩ := getx (l := b) (k := k) (by omega)
    obtain ⟨ad, rfl⟩ := haW.addr (by omega)
    obtain ⟨bd, rfl⟩ := hbW.addr (by omega)
    obtain ⟨X, xc, hxc, hxo⟩ := SE.ok haW hx
    obtain ⟨Y, yc, hyc, hyo⟩ := SE.ok hbW hy
    refine CW.skip (KW.then_ (CW.seq (CW.block (CW.seq (CW.draw mixed (by kernel_rfl) ?_)))))
    refine DW.move rfl rfl rfl ct ?_
    refine DW.move rfl rfl rfl ct ?_
    refine DW.indexAddr rfl rfl Tryd.underlying26 sz31 rfl ct rfl ct (fun _ => by (try dsimp only); omega) ?_
    refine DW.loadS _ rfl rfl Tryd.underlying31 sz31 rfl ct (fun _ => (fun j v hj => hxc j v hj)) rfl ?_
    refine DW.move rfl rfl rfl ct ?_
    refine DW.move rfl rfl rfl ct ?_
    refine DW.indexAddr rfl rfl Tryd.underlying26 sz31 rfl ct rfl ct (fun _ => by (try dsimp only); omega) ?_
    refine DW.loadS _ rfl rfl Tryd.underlying31 sz31 rfl ct (fun _ => (fun j v hj => hyc j v hj)) rfl ?_
    refine DW.call (.ex (.int .i64 (cmpE x y))) trivial rfl rfl en10 rfl ct (DArgs.cons rfl ct (DArgs.cons rfl ct DArgs.nil)) (fun _ w' hb' => (rcmp_c (hxo.below hb') (hyo.below hb') (hna x hxm) (hnb y hym)).mono fun u w'' h => h) ?_
    refine DW.neq rfl rfl rfl ct rfl ct ?_
    refine DW.move rfl rfl rfl ct ?_
    refine DW.move rfl rfl rfl ct ?_
    refine DW.move rfl rfl rfl ct ?_
    refine DW.indexAddr rfl rfl Tryd.underlying26 sz31 rfl id rfl id (fun h => by (try dsimp only); first | omega | (simp [Cnd] at h; omega)) ?_
    refine DW.fieldAddr rfl rfl fo31_3 rfl id ?_
    refine DW.load rfl rfl one29 rfl id (fun _ => hxc 3 _ rfl) ?_
    refine DW.lenSlice rfl rfl Tryd.underlying29 rfl id ?_
    refine DW.move rfl rfl rfl ct ?_
    refine DW.move rfl rfl rfl ct ?_
    refine DW.indexAddr rfl rfl Tryd.underlying26 sz31 rfl id rfl id (fun h => by (try dsimp only); first | omega | (simp [Cnd] at h; omega)) ?_
    refine DW.fieldAddr rfl rfl fo31_3 rfl id ?_
    refine DW.load rfl rfl one29 rfl id (fun _ => hyc 3 _ rfl) ?_
    refine DW.lenSlice rfl rfl Tryd.underlying29 rfl id ?_
    refine DW.neq rfl rfl rfl id rfl id ?_
    refine DW.pickOr rfl rfl rfl ct rfl pOr0 ?_
    refine DW.nil (DW.fin [0, 1, 5, 41] [(0, _, _), (1, _, _), (5, _, _), (41, _, _)] rfl (fun w3 b3 => KW.then_ ?_))
    refine CW.cond rfl (fun hd => ?_) (fun hs => ?_)
    · refine CW.seq (CW.region ?_)
      refine TW.assign rfl rfl rfl ct ?_
      refine TW.nil (KW.pick [0, 1, 4, 5] [(0, _, _), (1, _, _), (4, _, _), (5, _, _)] rfl (KW.then_ ?_))
      refine CW.ret (KW.blockR (KW.thenR (KW.thenR (KW.blockR (KW.thenR ?_)))))
      refine ret1 Tryd.results12 rfl (⟨hB.step b3, ?_⟩)
      rw [dec_neg fun e => ?_]
      subst e
      rw [hx] at hy
      cases hy
      rw [cmpE_zero.2 rfl] at hd
      simp at hd
    · have hxy : x = y := by
        apply cmpE_zero.1
        simp at hs
        exact hs.1
      refine CW.skip (KW.blockN (KW.then_ (CW.region ?_)))
      refine TW.move rfl rfl rfl ct ?_
      refine TW.add rfl rfl rfl ct rfl ct (fun _ => by (try dsimp only); omega) ?_
      refine TW.assign rfl rfl rfl ct ?_
      refine TW.nil (KW.pick [0, 1, 5] [(0, _, _), (1, _, _), (5, _, _)] rfl ?_)
      refine KW.round (k + 1) [0, 1, 5] rfl ⟨by omega, hB.step b3, ?_⟩ (by omega)
      rw [List.take_add_one, List.take_add_one, hx, hy, hpre, hxy]
  · refine CW.exit (KW.thenX (KW.thenX (KW.blockX (KW.then_ (CW.seq (CW.region ?_))))))
    refine TW.assign rfl rfl rfl ct ?_
    refine TW.nil (KW.pick [0, 1, 4, 5] [(0, _, _), (1, _, _), (4, _, _), (5, _, _)] rfl (KW.then_ ?_))
    refine CW.ret ?_
    refine ret1 Tryd.results12 rfl (⟨hB, by rw [dec_pos (take_all hpre (by omega) hlen)]⟩)

set_option maxRecDepth 20000 in
theorem rfew_c {w : World} {u v : Value} {l : List Sc} {r : List Rc} {F : Nat → Prop} (hl : SL scT F w u l) (hr : SR w v r) :
    Gives Tryd.prog 8 #[u, v] w fun x w' => Below w.heap.size w w' ∧ ∃ b, x = .bool b ∧ (b = true → l.length ≤ 30 ∧ r.length ≤ 30) := by
  obtain ⟨A, cap, hu, _⟩ := hl.form
  subst hu
  obtain ⟨B, bcap, hv, _⟩ := hr.form
  subst hv
  have hmax := hr.len.2.2
  refine gives_of (vs := [.slice A l.length cap, .slice B r.length bcap]) [(0, none, _), (1, none, _)] Tryd.func8 rfl Tryd.ntmps8 rfl rfl ?_
  refine CW.seq (CW.region ?_)
  refine TW.assign rfl rfl rfl ct ?_
  refine TW.nil (KW.pick [0, 1, 4] [(0, _, _), (1, _, _), (4, _, _)] rfl (KW.then_ ?_))
  refine CW.seq (CW.region ?_)
  refine TW.assign rfl rfl rfl ct ?_
  refine TW.nil (KW.pick [0, 1, 4, 5] [(0, _, _), (1, _, _), (4, _, _), (5, _, _)] rfl (KW.then_ ?_))
  refine CW.seq (CW.seq (CW.region ?_))
  refine TW.assign rfl rfl rfl ct ?_
  refine TW.nil (KW.pick [0, 1, 4, 5, 6] [(0, _, _), (1, _, _), (4, _, _), (5, _, _), (6, _, _)] rfl (KW.then_ ?_))
  refine CW.block ?_
  refine CW.loopS (fun x : Nat × Nat => [(0, none, .slice A l.length cap), (1, none, .slice B r.length bcap), (5, none, .int .i64 (x.2 : Int)), (6, none, .int .i64 (x.1 : Int))])
    (fun x W => x.1 ≤ r.length ∧ x.2 ≤ x.1 ∧ W = w) (fun x => r.length - x.1) (0, 0) [0, 1, 5, 6] ⟨Nat.zero_le _, Nat.le_refl _, rfl⟩ rfl ?_
  rintro ⟨i, n⟩ W ⟨hi, hn, rfl⟩
  dsimp only at hi hn
  refine CW.seq (CW.seq (CW.region ?_))
  refine TW.move rfl rfl rfl ct ?_
  refine TW.move rfl rfl rfl ct ?_
  refine TW.lenSlice rfl rfl Tryd.underlying23 rfl ct ?_
  refine TW.lss rfl rfl rfl ct rfl ct ?_
  refine TW.nil (KW.pick [0, 1, 5, 6, 10] [(0, _, _), (1, _, _), (5, _, _), (6, _, _), (10, _, _)] rfl (KW.then_ ?_))
  refine CW.condP rfl (fun hlt => ?_) (fun hge => ?_)
  · obtain ⟨x, hx, hxm⟩ := getx (l := r) (k := i) (by omega)
    obtain ⟨ad, rfl⟩ := hr.addr (by omega)
    obtain ⟨xv, hcells, hok⟩ := SR.get hr hx
    obtain ⟨X, xcap, hX, _⟩ := hok.ct.form
    subst hX
    refine CW.skip (KW.then_ (CW.seq (CW.block (CW.seq (CW.seq (CW.region ?_))))))
    refine TW.move rfl rfl rfl ct ?_
    refine TW.move rfl rfl rfl ct ?_
    refine TW.indexAddr rfl rfl Tryd.underlying23 sz35 rfl ct rfl ct (fun _ => by (try dsimp only); omega) ?_
    refine TW.fieldAddr rfl rfl fo35_2 rfl ct ?_
    refine TW.load rfl rfl one3 rfl ct (fun _ => hcells 2 _ rfl) ?_
    refine TW.eql rfl rfl rfl ct rfl ct ?_
    refine TW.nil (KW.pick [0, 1, 5, 6, 18] [(0, _, _), (1, _, _), (5, _, _), (6, _, _), (18, _, _)] rfl (KW.then_ ?_))
    refine CW.condP rfl (fun hk => ?_) (fun hk => ?_)
    · refine CW.region ?_
      refine TW.move rfl rfl rfl ct ?_
      refine TW.add rfl rfl rfl ct rfl ct (fun _ => by (try dsimp only); omega) ?_
      refine TW.assign rfl rfl rfl ct ?_
      refine TW.nil (KW.pick [0, 1, 5, 6] [(0, _, _), (1, _, _), (5, _, _), (6, _, _)] rfl (KW.then_ ?_))
      refine CW.seq (CW.region ?_)
      refine TW.move rfl rfl rfl ct ?_
      refine TW.move rfl rfl rfl ct ?_
      refine TW.indexAddr rfl rfl Tryd.underlying23 sz35 rfl ct rfl ct (fun _ => by (try dsimp only); omega) ?_
      refine TW.fieldAddr rfl rfl fo35_5 rfl ct ?_
      refine TW.load rfl rfl one33 rfl ct (fun _ => hcells 5 _ rfl) ?_
      refine TW.lenSlice rfl rfl Tryd.underlying33 rfl ct ?_
      refine TW.gtr rfl rfl rfl ct rfl ct ?_
      refine TW.move rfl rfl rfl ct ?_
      refine TW.move rfl rfl rfl ct ?_
      refine TW.move rfl rfl rfl ct ?_
      refine TW.indexAddr rfl rfl Tryd.underlying23 sz35 rfl id rfl id (fun h => by (try dsimp only); first | omega | (simp [Cnd] at h; omega)) ?_
      refine TW.fieldAddr rfl rfl fo35_4 rfl id ?_
      refine TW.load rfl rfl one9 rfl id (fun _ => hcells 4 _ rfl) ?_
      refine TW.lenString rfl rfl Tryd.underlying9 rfl id ?_
      refine TW.gtr rfl rfl rfl id rfl ct ?_
      refine TW.pickOr rfl rfl rfl ct rfl pOr0 ?_
      refine TW.nil (KW.pick [0, 1, 5, 6, 36] [(0, _, _), (1, _, _), (5, _, _), (6, _, _), (36, _, _)] rfl (KW.then_ ?_))
      refine CW.cond rfl (fun hbad => ?_) (fun hgood => ?_)
      · refine CW.seq (CW.region ?_)
        refine TW.assign rfl rfl rfl ct ?_
        refine TW.nil (KW.pick [0, 1, 4, 5, 6] [(0, _, _), (1, _, _), (4, _, _), (5, _, _), (6, _, _)] rfl (KW.then_ ?_))
        refine CW.ret (KW.blockR (KW.thenR (KW.thenR (KW.blockR (KW.thenR ?_)))))
        refine ret1 Tryd.results8 rfl (⟨Below.refl _ _, _, rfl, fun h => (by cases h)⟩)
      · refine CW.skip (KW.blockN (KW.then_ (CW.region ?_)))
        refine TW.move rfl rfl rfl ct ?_
        refine TW.add rfl rfl rfl ct rfl ct (fun _ => by (try dsimp only); omega) ?_
        refine TW.assign rfl rfl rfl ct ?_
        refine TW.nil (KW.pick [0, 1, 5, 6] [(0, _, _), (1, _, _), (5, _, _), (6, _, _)] rfl ?_)
        refine KW.round (i + 1, n + 1) [0, 1, 5, 6] rfl ⟨by omega, by omega, rfl⟩ (by omega)
    · refine CW.skip (KW.then_ (CW.seq (CW.region ?_)))
      refine TW.move rfl rfl rfl ct ?_
      refine TW.move rfl rfl rfl ct ?_
      refine TW.indexAddr rfl rfl Tryd.underlying23 sz35 rfl ct rfl ct (fun _ => by (try dsimp only); omega) ?_
      refine TW.fieldAddr rfl rfl fo35_5 rfl ct ?_
      refine TW.load rfl rfl one33 rfl ct (fun _ => hcells 5 _ rfl) ?_
      refine TW.lenSlice rfl rfl Tryd.underlying33 rfl ct ?_
      refine TW.gtr rfl rfl rfl ct rfl ct ?_
      refine TW.move rfl rfl rfl ct ?_
      refine TW.move rfl rfl rfl ct ?_
      refine TW.move rfl rfl rfl ct ?_
      refine TW.indexAddr rfl rfl Tryd.underlying23 sz35 rfl id rfl id (fun h => by (try dsimp only); first | omega | (simp [Cnd] at h; omega)) ?_
      refine TW.fieldAddr rfl rfl fo35_4 rfl id ?_
      refine TW.load rfl rfl one9 rfl id (fun _ => hcells 4 _ rfl) ?_
      refine TW.lenString rfl rfl Tryd.underlying9 rfl id ?_
      refine TW.gtr rfl rfl rfl id rfl ct ?_
      refine TW.pickOr rfl rfl rfl ct rfl pOr0 ?_
      refine TW.nil (KW.pick [0, 1, 5, 6, 36] [(0, _, _), (1, _, _), (5, _, _), (6, _, _), (36, _, _)] rfl (KW.then_ ?_))
      refine CW.cond rfl (fun hbad => ?_) (fun hgood => ?_)
      · refine CW.seq (CW.region ?_)
        refine TW.assign rfl rfl rfl ct ?_
        refine TW.nil (KW.pick [0, 1, 4, 5, 6] [(0, _, _), (1, _, _), (4, _, _), (5, _, _), (6, _, _)] rfl (KW.then_ ?_))
        refine CW.ret (KW.blockR (KW.thenR (KW.thenR (KW.blockR (KW.thenR ?_)))))
        refine ret1 Tryd.results8 rfl (⟨Below.refl _ _, _, rfl, fun h => (by cases h)⟩)
      · refine CW.skip (KW.blockN (KW.then_ (CW.region ?_)))
        refine TW.move rfl rfl rfl ct ?_
        refine TW.add rfl rfl rfl ct rfl ct (fun _ => by (try dsimp only); omega) ?_
        refine TW.assign rfl rfl rfl ct ?_
        refine TW.nil (KW.pick [0, 1, 5, 6] [(0, _, _), (1, _, _), (5, _, _), (6, _, _)] rfl ?_)
        refine KW.round (i + 1, n) [0, 1, 5, 6] rfl ⟨by omega, by omega, rfl⟩ (by omega)
  · refine CW.exit (KW.thenX (KW.thenX (KW.blockX (KW.then_ (CW.seq (CW.region ?_))))))
    refine TW.move rfl rfl rfl ct ?_
    refine TW.lenSlice rfl rfl Tryd.underlying22 rfl ct ?_
    refine TW.leq rfl rfl rfl ct rfl ct ?_
    refine TW.move rfl rfl rfl ct ?_
    refine TW.move rfl rfl rfl ct ?_
    refine TW.lenSlice rfl rfl Tryd.underlying23 rfl id ?_
    refine TW.leq rfl rfl rfl id rfl ct ?_
    refine TW.pickAnd rfl rfl rfl ct rfl pAnd0 ?_
    refine TW.move rfl rfl rfl ct ?_
    refine TW.move rfl rfl rfl ct ?_
    refine TW.leq rfl rfl rfl id rfl ct ?_
    refine TW.pickAnd rfl rfl rfl ct rfl pAnd0 ?_
    refine TW.assign rfl rfl rfl ct ?_
    refine TW.nil (KW.pick [0, 1, 4, 5, 6] [(0, _, _), (1, _, _), (4, _, _), (5, _, _), (6, _, _)] rfl (KW.then_ ?_))
    refine CW.ret ?_
    refine ret1 Tryd.results8 rfl (⟨Below.refl _ _, _, rfl, fun h => ?_⟩)
    simp at h
    omega
end Go.Proofs.YthjcgmjcpmodlaaDoor
