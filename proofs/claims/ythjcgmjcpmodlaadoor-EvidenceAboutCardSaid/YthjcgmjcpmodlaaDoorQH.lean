/- Texts joined: Vh Vi Vj Vk Vl. -/
import Derived.Test.YthjcgmjcpmodlaaDoorQG
import Derived.Test.YthjcgmjcpmodlaaDoorQD
import Derived.Shelf.SlSortCmp.NoneTotal
set_option linter.unusedSimpArgs false
set_option linter.unusedVariables false

namespace Go.Proofs.YthjcgmjcpmodlaaDoor
open Go.PF Go.RowKit Go.Ord Go.Sort

theorem kept_map {F : Nat → Prop} {b : Nat} {w w' : World} {m : List (ByteArray × Value)} (h : But b w w') (hm : MapL sK w b m) : Kept F w w' := fun p v _ hc => by
  by_cases hp : p.block = b
  · obtain ⟨⟨es, cl, hh, _⟩, _⟩ := hm
    rw [← hp] at hh
    simp [World.cell?, hh] at hc
  · exact (World.cell?_of_block (h.block _ (block_lt_of_cell hc) (fun e => hp (by cases e; rfl)))).trans hc
theorem LookIs.but {w w' : World} {b fb : Nat} {R : ByteArray → Nat → Prop} {m : List (ByteArray × Value)} (h : LookIs w b R) (hb : But fb w w') (hm : MapL sK w fb m) (hne : b ≠ fb) : LookIs w' b R := by
  obtain ⟨m1, h1, h2⟩ := h
  refine ⟨m1, h1.but hb hne, fun k v hv => ?_⟩
  obtain ⟨xs, a1, a2⟩ := h2 k v hv
  exact ⟨xs, (a1.mono (kept_map hb hm)).wider fun k hk => Nat.lt_of_lt_of_le hk hb.size, a2⟩
theorem SrcOK.but {w w' : World} {sb bl bh fb : Nat} {u v : Value} {l : List Sc} {r : List Rc} {m : List (ByteArray × Value)} (h : SrcOK w sb bl bh u v l r) (hb : But fb w w') (hm : MapL sK w fb m) (hne : bl ≠ fb ∧ bh ≠ fb) : SrcOK w' sb bl bh u v l r := by
  have hs : sb ≠ fb := fun e => by
    obtain ⟨⟨es, cl, hh, _⟩, _⟩ := hm
    have := h.blk
    unfold Blk at this
    rw [e, hh] at this
    cases this
  exact ⟨hb.blk h.blk hs, (h.ss.mono (kept_map hb hm)).wider fun k hk => Nat.lt_of_lt_of_le hk hb.size, (h.sr.mono (kept_map hb hm)).wider fun k hk => Nat.lt_of_lt_of_le hk hb.size, h.lab.but hb hm hne.1, h.hold.but hb hm hne.2, h.few⟩

/-- the events found -/
def FoundIs (base : Nat) (w : World) (fb : Nat) (S : Ev → Prop) : Prop := ∃ m, MapL sK w fb m ∧ (∀ p ∈ m, ∃ e nv, p = (textE e, Value.agg (evV e nv).toArray) ∧ EvOK (fun k => base ≤ k ∧ k < w.heap.size) w nv e ∧ S e) ∧ ∀ e, S e → ∃ v, (textE e, v) ∈ m
theorem FoundIs.congr {base : Nat} {w : World} {fb : Nat} {S S' : Ev → Prop} (h : FoundIs base w fb S) (hS : ∀ e, S e ↔ S' e) : FoundIs base w fb S' := by
  have : S = S' := funext fun e => propext (hS e)
  rw [← this]; exact h
theorem FoundIs.below {base : Nat} {w w' : World} {fb : Nat} {S : Ev → Prop} (h : FoundIs base w fb S) (hb : Below w.heap.size w w') : FoundIs base w' fb S := by
  obtain ⟨m, h1, h2, h3⟩ := h
  refine ⟨m, h1.below hb, fun p hp => ?_, h3⟩
  obtain ⟨e, nv, a1, a2, a3⟩ := h2 p hp
  exact ⟨e, nv, a1, a2.step2 hb, a3⟩
theorem FoundIs.put {base : Nat} {w w' : World} {fb : Nat} {S : Ev → Prop} {m : List (ByteArray × Value)} {e : Ev} {nv : Value} (hm : MapL sK w fb m) (h2 : ∀ p ∈ m, ∃ e nv, p = (textE e, Value.agg (evV e nv).toArray) ∧ EvOK (fun k => base ≤ k ∧ k < w.heap.size) w nv e ∧ S e) (h3 : ∀ e, S e → ∃ v, (textE e, v) ∈ m)
    (he : EvOK (fun k => base ≤ k ∧ k < w.heap.size) w nv e) (hb : But fb w w') (hm' : MapL sK w' fb (lput m (textE e) (.agg (evV e nv).toArray))) : FoundIs base w' fb fun f => S f ∨ f = e := by
  have hok : ∀ {f : Ev} {nv : Value}, EvOK (fun k => base ≤ k ∧ k < w.heap.size) w nv f → EvOK (fun k => base ≤ k ∧ k < w'.heap.size) w' nv f := fun h => ⟨h.i1, h.i2, h.i3, (h.nd.mono (kept_map hb hm)).wider fun k hk => ⟨hk.1, Nat.lt_of_lt_of_le hk.2 hb.size⟩⟩
  refine ⟨_, hm', fun p hp => ?_, fun f hf => ?_⟩
  · rcases mem_lput.1 hp with rfl | ⟨hp, _⟩
    · exact ⟨e, nv, rfl, hok he, .inr rfl⟩
    · obtain ⟨f, nv', a1, a2, a3⟩ := h2 p hp
      exact ⟨f, nv', a1, hok a2, .inl a3⟩
  · by_cases hfe : f = e
    · subst hfe; exact ⟨_, mem_lput.2 (.inl rfl)⟩
    · obtain ⟨v, hv⟩ := h3 f (hf.resolve_right hfe)
      exact ⟨v, mem_lput.2 (.inr ⟨hv, fun e2 => hfe (textE_inj e2)⟩)⟩

/-- what the closure looks at -/
structure FolCtx (w : World) (sb bl bh : Nat) (u v : Value) (l : List Sc) (r : List Rc) (gz gs gf gw fb n : Nat) : Prop where
  src : SrcOK w sb bl bh u v l r
  bz : Blk w gz 3 [.int .i64 (n : Int)]
  bs : Blk w gs 46 [.pointer (some ⟨sb, 0, none⟩)]
  bf : Blk w gf 58 [.map (some fb)]
  bw : Blk w gw 59 [.func (.func 26) #[] [.pointer (some ⟨gz, 0, none⟩), .pointer (some ⟨gs, 0, none⟩), .pointer (some ⟨gf, 0, none⟩), .pointer (some ⟨gw, 0, none⟩)].toArray]
  tabs : Tabs w
  ne : bl ≠ fb ∧ bh ≠ fb
theorem FolCtx.below {w w' : World} {sb bl bh : Nat} {u v : Value} {l : List Sc} {r : List Rc} {gz gs gf gw fb n : Nat} (h : FolCtx w sb bl bh u v l r gz gs gf gw fb n) (hb : Below w.heap.size w w') : FolCtx w' sb bl bh u v l r gz gs gf gw fb n :=
  ⟨h.src.below hb, h.bz.next hb, h.bs.next hb, h.bf.next hb, h.bw.next hb, h.tabs.below hb, h.ne⟩
theorem blk_ne {w : World} {g b : Nat} {t : TypeId} {cs : List Value} {m : List (ByteArray × Value)} (hB : Blk w g t cs) (hm : MapL sK w b m) : g ≠ b := fun e => by
  obtain ⟨⟨es, cl, hh, _⟩, _⟩ := hm
  unfold Blk at hB
  rw [e, hh] at hB
  cases hB
theorem Tabs.but {w w' : World} {fb : Nat} {m : List (ByteArray × Value)} (h : Tabs w) (hb : But fb w w') (hm : MapL sK w fb m) : Tabs w' := by
  refine ⟨?_⟩
  have hp := h.pow
  unfold Lib.TabIs World.var? at hp ⊢
  cases hg : Tryd.prog.globalNamed "internal/strconv.uint64pow10" with
  | none => rw [hg] at hp; cases hp
  | some g =>
    rw [hg] at hp
    simp only [Option.bind_some] at hp ⊢
    obtain ⟨⟨es, cl, hh, _⟩, _⟩ := hm
    have hne : g ≠ fb := fun e => by
      rw [e, hh] at hp
      simp at hp
    rcases Nat.lt_or_ge g w.heap.size with hlt | hge
    · rw [hb.block g hlt (fun e => hne (by cases e; rfl))]; exact hp
    · rw [Array.getElem?_eq_none hge] at hp; cases hp
theorem FolCtx.but {w w' : World} {sb bl bh : Nat} {u v : Value} {l : List Sc} {r : List Rc} {gz gs gf gw fb n : Nat} {m : List (ByteArray × Value)} (h : FolCtx w sb bl bh u v l r gz gs gf gw fb n) (hb : But fb w w') (hm : MapL sK w fb m) : FolCtx w' sb bl bh u v l r gz gs gf gw fb n :=
  ⟨h.src.but hb hm h.ne, hb.blk h.bz (blk_ne h.bz hm), hb.blk h.bs (blk_ne h.bs hm), hb.blk h.bf (blk_ne h.bf hm), hb.blk h.bw (blk_ne h.bw hm), h.tabs.but hb hm, h.ne⟩
end Go.Proofs.YthjcgmjcpmodlaaDoor

namespace Go.Proofs.YthjcgmjcpmodlaaDoor
open Go.PF Go.RowKit Go.Ord Go.Sort

def capsF (gz gs gf gw : Nat) : List Value := [.pointer (some ⟨gz, 0, none⟩), .pointer (some ⟨gs, 0, none⟩), .pointer (some ⟨gf, 0, none⟩), .pointer (some ⟨gw, 0, none⟩)]
theorem min_three (n : Nat) : min (n : Int) 3 = ((min n 3 : Nat) : Int) := by omega

theorem nat_mem {c : List Nat} {i : Nat} : (i : Int) ∈ c.map (fun k : Nat => (k : Int)) ↔ i ∈ c := by
  rw [List.mem_map]
  exact ⟨fun ⟨k, hk, e⟩ => by have : k = i := by omega
                              exact this ▸ hk, fun h => ⟨i, h, rfl⟩⟩

set_option maxRecDepth 20000 in
set_option maxHeartbeats 2000000 in
theorem follow_c {base sb bl bh gz gs gf gw fb n : Nat} {u v : Value} {l : List Sc} {r : List Rc} {lab : ByteArray} (hn1 : 1 ≤ n) (hn4 : n ≤ 4) : ∀ (d : Nat) (w : World) (c : List Nat) (a : ByteArray) (cv : Value) (F : Nat → Prop) (S : Ev → Prop),
    min n 3 - c.length = d → c.length ≤ min n 3 → Chn l r lab c a → SL intT F w cv (c.map fun k : Nat => (k : Int)) → FolCtx w sb bl bh u v l r gz gs gf gw fb n → base ≤ w.heap.size → FoundIs base w fb S →
    Gives Tryd.prog 26 ([.string a, cv] ++ capsF gz gs gf gw).toArray w fun _ w' => But fb w w' ∧ FoundIs base w' fb fun e => S e ∨ (Ext l r lab c e ∧ e.needs.length = n) := by
  intro d
  induction d using Nat.strongRecOn with
  | ind d ih =>
  intro w c a cv F S hd hcm hchn hc hX hbase hf
  obtain ⟨C, ccap, hcv, _⟩ := hc.form
  subst hcv
  have hcl : c.length ≤ 3 := by omega
  have hc' := hc
  obtain ⟨mm, hlen⟩ : ∃ mm : Nat, mm = (c.map fun k : Nat => (k : Int)).length := ⟨_, rfl⟩
  have hmc : mm = c.length := by rw [hlen]; simp
  rw [← hlen] at hc' ⊢
  obtain ⟨m0, hm0⟩ : ∃ m, MapL sK w fb m := let ⟨m, h, _⟩ := hf; ⟨m, h⟩
  refine gives_of (vs := [.string a, .slice C mm ccap, .pointer (some ⟨gz, 0, none⟩), .pointer (some ⟨gs, 0, none⟩), .pointer (some ⟨gf, 0, none⟩), .pointer (some ⟨gw, 0, none⟩)]) [(0, none, _), (1, none, _), (2, none, _), (3, none, _), (4, none, _), (5, none, _)] Tryd.func26 rfl Tryd.ntmps26 rfl rfl ?_
  refine CW.seq (CW.seq (CW.region ?_))
  refine TW.move rfl rfl rfl ct ?_
  refine TW.lenSlice rfl rfl Tryd.underlying29 rfl ct ?_
  refine TW.load rfl rfl one3 rfl ct (fun _ => hX.bz.cell 0) ?_
  refine TW.sub rfl rfl rfl ct rfl ct (fun _ => by (try dsimp only); omega) ?_
  refine TW.geq rfl rfl rfl ct rfl ct ?_
  refine TW.nil (KW.pick [0, 1, 2, 3, 4, 5, 17] [(0, _, _), (1, _, _), (2, _, _), (3, _, _), (4, _, _), (5, _, _), (17, _, _)] rfl (KW.then_ ?_))
  have hcint : ∀ {W : World}, But fb w W → SL intT F W (.slice C mm ccap) (c.map fun k : Nat => (k : Int)) := fun hb => hc'.mono (kept_map hb hm0)
  refine CW.join [(0, none, .string a), (1, none, .slice C mm ccap), (2, none, .pointer (some ⟨gz, 0, none⟩)), (3, none, .pointer (some ⟨gs, 0, none⟩)), (4, none, .pointer (some ⟨gf, 0, none⟩)), (5, none, .pointer (some ⟨gw, 0, none⟩))]
    (fun W => But fb w W ∧ FoundIs base W fb fun e => S e ∨ (n ≤ c.length + 1 ∧ ∃ i x, r[i]? = some x ∧ Val l x ∧ x.label = a ∧ (i ∈ c ↔ c.length = n) ∧ e = evOf l x (recI (c ++ [i])))) (fun hj => ?_) (fun W1 hJ => ?_)
  · skip
    refine CW.condP rfl (fun hge => ?_) (fun hlt => ?_)
    · have hle : n ≤ c.length + 1 := by omega
      refine CW.seq (CW.region ?_)
      refine TW.load rfl rfl one46 rfl ct (fun _ => hX.bs.cell 0) ?_
      refine TW.nilCheck rfl rfl rfl ct ?_
      refine TW.fieldAddr rfl rfl fo57_2 rfl ct ?_
      refine TW.load rfl rfl one55 rfl ct (fun _ => hX.src.blk.fld rfl) ?_
      refine TW.move rfl rfl rfl ct ?_
      obtain ⟨mL, hmL, hlook⟩ := hX.src.lab
      refine TW.lookup1 sK a rfl rfl Tryd.underlying55 ze29 rfl rfl hmL ?_
      rintro lv hlv
      obtain ⟨xs, hxs, hxl, hxm⟩ := hlook a lv hlv
      obtain ⟨L1, lcap, hL1, _⟩ := hxs.form
      subst hL1
      refine TW.lenSlice rfl rfl Tryd.underlying29 rfl ct ?_
      refine TW.move rfl rfl rfl ct ?_
      refine TW.nil (KW.pick [0, 1, 2, 3, 4, 5, 23, 24, 25] [(0, _, _), (1, _, _), (2, _, _), (3, _, _), (4, _, _), (5, _, _), (23, _, _), (24, _, _), (25, _, _)] rfl (KW.then_ ?_))
      refine CW.block ?_
      refine CW.loopS (fun k : Nat => [(0, none, .string a), (1, none, .slice C mm ccap), (2, none, .pointer (some ⟨gz, 0, none⟩)), (3, none, .pointer (some ⟨gs, 0, none⟩)), (4, none, .pointer (some ⟨gf, 0, none⟩)), (5, none, .pointer (some ⟨gw, 0, none⟩)), (23, none, .slice L1 xs.length lcap), (24, none, .int .i64 (xs.length : Int)), (25, none, .int .i64 (k : Int))])
        (fun k W => k ≤ xs.length ∧ But fb w W ∧ FoundIs base W fb fun e => S e ∨ ∃ z ∈ xs.take k, ∃ (i : Nat) (x : Rc), (i : Int) = z ∧ r[i]? = some x ∧ (i ∈ c ↔ c.length = n) ∧ e = evOf l x (recI (c ++ [i]))) (fun k => xs.length - k) 0 [0, 1, 2, 3, 4, 5, 23, 24, 25] ⟨Nat.zero_le _, But.of_below (Below.refl _ _), hf.congr fun e => ⟨.inl, fun h => h.resolve_right fun ⟨z, hz, _⟩ => by simp at hz⟩⟩ rfl ?_
      rintro k W ⟨hk, hbut, hF⟩
      have hxsW : SL intT (fun k => k < w.heap.size) W (.slice L1 xs.length lcap) xs := hxs.mono (kept_map hbut hm0)
      have hXW := hX.but hbut hm0
      have hcW := hcint hbut
      refine CW.seq (CW.region ?_)
      refine TW.lss rfl rfl rfl ct rfl ct ?_
      refine TW.nil (KW.pick [0, 1, 2, 3, 4, 5, 23, 24, 25, 26] [(0, _, _), (1, _, _), (2, _, _), (3, _, _), (4, _, _), (5, _, _), (23, _, _), (24, _, _), (25, _, _), (26, _, _)] rfl (KW.then_ ?_))
      refine CW.seq ?_
      refine CW.condP rfl (fun hlt2 => ?_) (fun hge2 => ?_)
      · obtain ⟨z, hz, hzm⟩ := getx (l := xs) (k := k) (by omega)
        obtain ⟨Ld, rfl⟩ := hxsW.addr (by omega)
        obtain ⟨j, hjz, hjlt, x, hx, hv, hxl2⟩ := (hxm z).1 hzm
        subst hjz
        have hsz := Fol.size hchn j
        refine CW.skip (KW.then_ (CW.seq (CW.block (CW.seq (CW.region ?_)))))
        refine TW.indexAddr rfl rfl Tryd.underlying29 sz3 rfl ct rfl ct (fun _ => by (try dsimp only); omega) ?_
        refine TW.load rfl rfl one3 rfl ct (fun _ => hxsW.getI hz) ?_
        refine TW.assign rfl rfl rfl ct ?_
        refine TW.nil (KW.pick [0, 1, 2, 3, 4, 5, 9, 23, 24, 25] [(0, _, _), (1, _, _), (2, _, _), (3, _, _), (4, _, _), (5, _, _), (9, _, _), (23, _, _), (24, _, _), (25, _, _)] rfl (KW.then_ ?_))
        refine CW.seq (CW.draw mixed (by kernel_rfl) ?_)
        refine DW.move rfl rfl rfl ct ?_
        refine DW.move rfl rfl rfl ct ?_
        refine DW.call (.ex (.bool (decide ((j : Int) ∈ c.map fun k : Nat => (k : Int))))) trivial rfl rfl en27 rfl ct (DArgs.cons rfl ct (DArgs.cons rfl ct DArgs.nil)) (fun _ w' hb' => (contains_e (hcW.below hb')).mono fun u w'' ⟨h1, h2⟩ => ⟨h1, h2⟩) ?_
        refine DW.move rfl rfl rfl ct ?_
        refine DW.lenSlice rfl rfl Tryd.underlying29 rfl ct ?_
        refine DW.load rfl rfl one3 rfl ct (fun _ => hXW.bz.cell 0) ?_
        refine DW.eql rfl rfl rfl ct rfl ct ?_
        refine DW.eqlB rfl rfl Tryd.underlying4 rfl ct rfl ct ?_
        refine DW.nil (DW.fin [0, 1, 2, 3, 4, 5, 9, 23, 24, 25, 36] [(0, _, _), (1, _, _), (2, _, _), (3, _, _), (4, _, _), (5, _, _), (9, _, _), (23, _, _), (24, _, _), (25, _, _), (36, _, _)] rfl (fun w2 b2 => KW.then_ ?_))
        have hX2 := hXW.below b2
        have hF2 := hF.below b2
        have hbut2 := hbut.step b2
        refine CW.cond rfl (fun hyes => ?_) (fun hno => ?_)
        · have hcond : j ∈ c ↔ c.length = n := by
            have h1 : decide ((j : Int) ∈ c.map fun k : Nat => (k : Int)) = decide ((mm : Int) = (n : Int)) := by simpa using hyes
            have h2 := decide_eq_decide.1 h1
            rw [nat_mem] at h2
            rw [h2]
            omega
          refine CW.seq (CW.region ?_)
          refine TW.load rfl rfl one46 rfl ct (fun _ => hX2.bs.cell 0) ?_
          refine TW.move rfl rfl rfl ct ?_
          refine TW.move rfl rfl rfl ct ?_
          refine TW.call0 (cap := []) rfl rfl en28 rfl (Args.cons rfl ct (Args.cons rfl ct (Args.cons rfl ct Args.nil))) (event_c hX2.src hx hv (hcW.below b2) hcl) ?_
          rintro y3 w3 ⟨hb3, nv, rfl, hev⟩
          obtain ⟨N1, ncap, hN1, _⟩ := hev.nd.form
          subst hN1
          refine TW.newVar rfl zc31 rfl sz31 rfl rfl ?_
          rintro g10 w4 f4
          refine TW.nil (KW.pick [0, 1, 2, 3, 4, 5, 9, 10, 23, 24, 25] [(0, _, _), (1, _, _), (2, _, _), (3, _, _), (4, _, _), (5, _, _), (9, _, _), (10, _, _), (23, _, _), (24, _, _), (25, _, _)] rfl (KW.then_ ?_))
          refine CW.drawR mixed fun W5 hb5 => ?_
          refine RW.draw .weak 4 (by kernel_rfl) (by kernel_rfl) rfl rfl hb5 ?_
          have hX4 := (hX2.below hb3).below f4.below
          have hws2 := hbut2.size
          have hev4 := (hev.from (b' := base) (by omega)).step2 f4.below
          have hlenE : (evOf l x (recI (c ++ [j]))).needs.length ≤ 1000 := by
            show (recI (c ++ [j])).length ≤ 1000
            rw [hsz]; split <;> omega
          refine DW.load rfl rfl one58 rfl ct (fun _ => hX4.bf.cell 0) ?_
          refine DW.loadS _ rfl rfl Tryd.underlying31 sz31 rfl ct (fun _ => (fun _ _ hv => f4.blk.fld hv)) rfl ?_
          refine DW.call (.ex (.string (textE (evOf l x (recI (c ++ [j])))))) trivial rfl rfl en29 rfl ct (DArgs.cons rfl ct DArgs.nil) (fun _ w' hb' => (text_c (hev4.below hb') hlenE (hX4.tabs.below hb')).mono fun u w'' ⟨h1, h2⟩ => ⟨h1, h2⟩) ?_
          refine DW.loadS _ rfl rfl Tryd.underlying31 sz31 rfl ct (fun _ => (fun _ _ hv => f4.blk.fld hv)) rfl ?_
          refine DW.nil (DW.fin [0, 1, 2, 3, 4, 5, 9, 10, 23, 24, 25, 41, 43, 44] [(0, _, _), (1, _, _), (2, _, _), (3, _, _), (4, _, _), (5, _, _), (9, _, _), (10, _, _), (23, _, _), (24, _, _), (25, _, _), (41, _, _), (43, _, _), (44, _, _)] rfl (fun w5 b5 => KW.rk' ?_))
          refine RW.one (by kernel_rfl) (by kernel_rfl) rfl ?_
          have hF5 := ((hF2.below hb3).below f4.below).below b5
          obtain ⟨m5, hm5, q2, q3⟩ := hF5
          refine TW.mapUpdateL sK (textE (evOf l x (recI (c ++ [j])))) rfl Tryd.underlying58 rfl rfl rfl hm5 ?_
          rintro w6 hs6 hb6 hm6
          refine TW.nil (KW.pick [0, 1, 2, 3, 4, 5, 9, 10, 23, 24, 25] [(0, _, _), (1, _, _), (2, _, _), (3, _, _), (4, _, _), (5, _, _), (9, _, _), (10, _, _), (23, _, _), (24, _, _), (25, _, _)] rfl (KW.rk ?_))
          refine RW.end rfl (KW.pick [0, 1, 2, 3, 4, 5, 9, 10, 23, 24, 25] [(0, _, _), (1, _, _), (2, _, _), (3, _, _), (4, _, _), (5, _, _), (9, _, _), (10, _, _), (23, _, _), (24, _, _), (25, _, _)] rfl (KW.blockN (KW.then_ ?_)))
          refine CW.region ?_
          refine TW.add rfl rfl rfl ct rfl ct (fun _ => by (try dsimp only); omega) ?_
          refine TW.move rfl rfl rfl ct ?_
          refine TW.nil (KW.pick [0, 1, 2, 3, 4, 5, 9, 10, 23, 24, 25] [(0, _, _), (1, _, _), (2, _, _), (3, _, _), (4, _, _), (5, _, _), (9, _, _), (10, _, _), (23, _, _), (24, _, _), (25, _, _)] rfl ?_)
          have hput := FoundIs.put hm5 q2 q3 (hev4.step2 b5) hb6 hm6
          refine KW.round (k + 1) [0, 1, 2, 3, 4, 5, 23, 24, 25] rfl ⟨by omega, (((hbut2.step hb3).step f4.below).step b5).trans hb6, hput.congr fun e => ?_⟩ (by omega)
          rw [List.take_add_one, hz]
          simp only [Option.toList_some, List.mem_append, List.mem_singleton]
          constructor
          · rintro ((h | ⟨z, hz2, h⟩) | h)
            · exact .inl h
            · exact .inr ⟨z, .inl hz2, h⟩
            · exact .inr ⟨_, .inr rfl, j, x, rfl, hx, hcond, h⟩
          · rintro (h | ⟨z, hz2 | rfl, i, y, h1, h2, h3, h4⟩)
            · exact .inl (.inl h)
            · exact .inl (.inr ⟨z, hz2, i, y, h1, h2, h3, h4⟩)
            · have : i = j := by omega
              subst this
              rw [hx] at h2
              cases h2
              exact .inr h4
        · have hcond : ¬ (j ∈ c ↔ c.length = n) := fun h => by
            have h1 : ¬ decide ((j : Int) ∈ c.map fun k : Nat => (k : Int)) = decide ((mm : Int) = (n : Int)) := by simpa using hno
            apply h1
            rw [decide_eq_decide, nat_mem, h]
            omega
          refine CW.skip (KW.blockN (KW.then_ (CW.region ?_)))
          refine TW.add rfl rfl rfl ct rfl ct (fun _ => by (try dsimp only); omega) ?_
          refine TW.move rfl rfl rfl ct ?_
          refine TW.nil (KW.pick [0, 1, 2, 3, 4, 5, 9, 23, 24, 25] [(0, _, _), (1, _, _), (2, _, _), (3, _, _), (4, _, _), (5, _, _), (9, _, _), (23, _, _), (24, _, _), (25, _, _)] rfl ?_)
          refine KW.round (k + 1) [0, 1, 2, 3, 4, 5, 23, 24, 25] rfl ⟨by omega, hbut2, hF2.congr fun e => ?_⟩ (by omega)
          rw [List.take_add_one, hz]
          simp only [Option.toList_some, List.mem_append, List.mem_singleton]
          constructor
          · rintro (h | ⟨z, hz2, h⟩)
            · exact .inl h
            · exact .inr ⟨z, .inl hz2, h⟩
          · rintro (h | ⟨z, hz2 | rfl, i, y, h1, h2, h3, h4⟩)
            · exact .inl h
            · exact .inr ⟨z, hz2, i, y, h1, h2, h3, h4⟩
            · have : i = j := by omega
              subst this
              exact absurd h3 hcond
      · refine CW.exit (KW.thenX (KW.thenX (KW.blockX (KW.then_ ?_))))
        have hke : k = xs.length := by omega
        subst hke
        rw [List.take_length] at hF
        exact CW.pick [0, 1, 2, 3, 4, 5] _ rfl (hj _ ⟨hbut, hF.congr fun e => by
          constructor
          · rintro (h | ⟨z, hz, i, x, h1, h2, h3, h4⟩)
            · exact .inl h
            · obtain ⟨j, hjz, hjlt, y, hy, hv, hl2⟩ := (hxm z).1 hz
              have : i = j := by omega
              subst this
              rw [h2] at hy
              cases hy
              exact .inr ⟨hle, i, x, h2, hv, hl2, h3, h4⟩
          · rintro (h | ⟨_, i, x, h2, hv, hl2, h3, h4⟩)
            · exact .inl h
            · exact .inr ⟨(i : Int), (hxm _).2 ⟨i, rfl, (List.getElem?_eq_some_iff.1 h2).1, x, h2, hv, hl2⟩, i, x, rfl, h2, h3, h4⟩⟩)
    · refine CW.skip (KW.then_ ?_)
      exact CW.pick [0, 1, 2, 3, 4, 5] _ rfl (hj _ ⟨But.of_below (Below.refl _ _), hf.congr fun e => ⟨.inl, fun h => h.resolve_right fun h => by omega⟩⟩)
  · obtain ⟨hbut1, hF1⟩ := hJ
    have hX1 := hX.but hbut1 hm0
    refine CW.seq (CW.seq (CW.region ?_))
    refine TW.move rfl rfl rfl ct ?_
    refine TW.lenSlice rfl rfl Tryd.underlying29 rfl ct ?_
    refine TW.load rfl rfl one3 rfl ct (fun _ => hX1.bz.cell 0) ?_
    refine TW.minI rfl rfl rfl ct rfl ct ?_
    refine TW.eql rfl rfl rfl ct rfl ct ?_
    refine TW.nil (KW.pick [0, 1, 2, 3, 4, 5, 50] [(0, _, _), (1, _, _), (2, _, _), (3, _, _), (4, _, _), (5, _, _), (50, _, _)] rfl (KW.then_ ?_))
    have hmin : min (n : Int) 3 = ((min n 3 : Nat) : Int) := min_three n
    refine CW.condP rfl (fun hend => ?_) (fun hgo => ?_)
    · have hce : c.length = min n 3 := by omega
      refine CW.ret (KW.thenR ?_)
      refine ret0 Tryd.results26 (⟨hbut1, hF1.congr fun e => ?_⟩)
      rw [ext_size hchn hcm e]
      exact ⟨fun h => h.imp id .inl, fun h => h.imp id fun h => h.resolve_right fun h => h.1 hce⟩
    · have hcn : c.length ≠ min n 3 := by omega
      refine CW.skip (KW.then_ (CW.seq (CW.region ?_)))
      refine TW.load rfl rfl one46 rfl ct (fun _ => hX1.bs.cell 0) ?_
      refine TW.nilCheck rfl rfl rfl ct ?_
      refine TW.fieldAddr rfl rfl fo57_3 rfl ct ?_
      refine TW.load rfl rfl one55 rfl ct (fun _ => hX1.src.blk.fld rfl) ?_
      refine TW.move rfl rfl rfl ct ?_
      obtain ⟨mH, hmH, hlook⟩ := hX1.src.hold
      refine TW.lookup1 sK a rfl rfl Tryd.underlying55 ze29 rfl rfl hmH ?_
      rintro lv hlv
      obtain ⟨xs, hxs, hxl, hxm⟩ := hlook a lv hlv
      obtain ⟨L1, lcap, hL1, _⟩ := hxs.form
      subst hL1
      obtain ⟨m1, hm1⟩ : ∃ m, MapL sK W1 fb m := let ⟨m, h, _⟩ := hF1; ⟨m, h⟩
      obtain ⟨S1, hS1⟩ : ∃ S1 : Ev → Prop, S1 = fun e => S e ∨ (n ≤ c.length + 1 ∧ ∃ i x, r[i]? = some x ∧ Val l x ∧ x.label = a ∧ (i ∈ c ↔ c.length = n) ∧ e = evOf l x (recI (c ++ [i]))) := ⟨_, rfl⟩
      have hF1' : FoundIs base W1 fb S1 := hS1 ▸ hF1
      refine TW.lenSlice rfl rfl Tryd.underlying29 rfl ct ?_
      refine TW.move rfl rfl rfl ct ?_
      refine TW.nil (KW.pick [0, 1, 2, 3, 4, 5, 56, 57, 58] [(0, _, _), (1, _, _), (2, _, _), (3, _, _), (4, _, _), (5, _, _), (56, _, _), (57, _, _), (58, _, _)] rfl (KW.then_ ?_))
      refine CW.block ?_
      refine CW.loopS (fun k : Nat => [(0, none, .string a), (1, none, .slice C mm ccap), (2, none, .pointer (some ⟨gz, 0, none⟩)), (3, none, .pointer (some ⟨gs, 0, none⟩)), (4, none, .pointer (some ⟨gf, 0, none⟩)), (5, none, .pointer (some ⟨gw, 0, none⟩)), (56, none, .slice L1 xs.length lcap), (57, none, .int .i64 (xs.length : Int)), (58, none, .int .i64 (k : Int))])
        (fun k W => k ≤ xs.length ∧ But fb W1 W ∧ FoundIs base W fb fun e => S1 e ∨ ∃ z ∈ xs.take k, ∃ (i : Nat), (i : Int) = z ∧ i ∉ c ∧ Ext l r lab (c ++ [i]) e ∧ e.needs.length = n) (fun k => xs.length - k) 0 [0, 1, 2, 3, 4, 5, 56, 57, 58] ⟨Nat.zero_le _, But.of_below (Below.refl _ _), hF1'.congr fun e => ⟨.inl, fun h => h.resolve_right fun ⟨z, hz, _⟩ => by simp at hz⟩⟩ rfl ?_
      rintro k W ⟨hk, hbut, hF⟩
      have hbutw := hbut1.trans hbut
      have hxsW : SL intT (fun k => k < W1.heap.size) W (.slice L1 xs.length lcap) xs := hxs.mono (kept_map hbut hm1)
      have hXW := hX1.but hbut hm1
      have hcW := hcint hbutw
      refine CW.seq (CW.region ?_)
      refine TW.lss rfl rfl rfl ct rfl ct ?_
      refine TW.nil (KW.pick [0, 1, 2, 3, 4, 5, 56, 57, 58, 59] [(0, _, _), (1, _, _), (2, _, _), (3, _, _), (4, _, _), (5, _, _), (56, _, _), (57, _, _), (58, _, _), (59, _, _)] rfl (KW.then_ ?_))
      refine CW.seq ?_
      refine CW.condP rfl (fun hlt2 => ?_) (fun hge2 => ?_)
      · obtain ⟨z, hz, hzm⟩ := getx (l := xs) (k := k) (by omega)
        obtain ⟨Ld, rfl⟩ := hxsW.addr (by omega)
        obtain ⟨j, hjz, hjlt, x, hx, hv, hxa⟩ := (hxm z).1 hzm
        subst hjz
        refine CW.skip (KW.then_ (CW.seq (CW.block (CW.seq (CW.region ?_)))))
        refine TW.indexAddr rfl rfl Tryd.underlying29 sz3 rfl ct rfl ct (fun _ => by (try dsimp only); omega) ?_
        refine TW.load rfl rfl one3 rfl ct (fun _ => hxsW.getI hz) ?_
        refine TW.assign rfl rfl rfl ct ?_
        refine TW.nil (KW.pick [0, 1, 2, 3, 4, 5, 12, 56, 57, 58] [(0, _, _), (1, _, _), (2, _, _), (3, _, _), (4, _, _), (5, _, _), (12, _, _), (56, _, _), (57, _, _), (58, _, _)] rfl (KW.then_ ?_))
        refine CW.seq (CW.region ?_)
        refine TW.move rfl rfl rfl ct ?_
        refine TW.move rfl rfl rfl ct ?_
        refine TW.call0 (cap := []) rfl rfl en27 rfl (Args.cons rfl ct (Args.cons rfl ct Args.nil)) (contains_e hcW) ?_
        rintro y2 w2 ⟨hb2, rfl⟩
        refine TW.not rfl rfl rfl ct ?_
        refine TW.nil (KW.pick [0, 1, 2, 3, 4, 5, 12, 56, 57, 58, 65] [(0, _, _), (1, _, _), (2, _, _), (3, _, _), (4, _, _), (5, _, _), (12, _, _), (56, _, _), (57, _, _), (58, _, _), (65, _, _)] rfl (KW.then_ ?_))
        have hX2 := hXW.below hb2
        have hF2 := hF.below hb2
        have hbut2 := hbut.step hb2
        refine CW.cond rfl (fun hyes => ?_) (fun hno => ?_)
        · have hjc : j ∉ c := fun h => by
            have := nat_mem.2 h
            rw [decide_eq_true this] at hyes
            simp at hyes
          have hsr := hX2.src.sr
          obtain ⟨A, cap, hA, _⟩ := hsr.form
          subst hA
          obtain ⟨ad, hA⟩ := hsr.addr (by omega)
          subst hA
          obtain ⟨xv, hcells, hok⟩ := SR.get hsr hx
          have hmaxr := hsr.len.2.2
          refine CW.drawR mixed fun W3 hb3 => ?_
          refine RW.draw .own 14 (by kernel_rfl) (by kernel_rfl) rfl rfl hb3 ?_
          refine DW.load rfl rfl one59 rfl ct (fun _ => hX2.bw.cell 0) ?_
          refine DW.load rfl rfl one46 rfl ct (fun _ => hX2.bs.cell 0) ?_
          refine DW.nilCheck rfl rfl rfl ct ?_
          refine DW.fieldAddr rfl rfl fo57_1 rfl ct ?_
          refine DW.load rfl rfl one23 rfl ct (fun _ => hX2.src.blk.fld rfl) ?_
          refine DW.move rfl rfl rfl ct ?_
          refine DW.indexAddr rfl rfl Tryd.underlying23 sz35 rfl ct rfl ct (fun _ => by (try dsimp only); omega) ?_
          refine DW.fieldAddr rfl rfl fo35_4 rfl ct ?_
          refine DW.load rfl rfl one9 rfl ct (fun _ => hcells 4 _ rfl) ?_
          refine DW.move rfl rfl rfl ct ?_
          refine OW.callRow 3 1 c.length ((c.map fun k : Nat => (k : Int)).map (Value.int .i64)) rfl rfl en30 rfl ct (DArgs.cons rfl ct DArgs.nil) (fun _ w' hb' => (cloneO_c ((hcW.below hb2).below hb') (by simp; omega)).mono fun y w'' ⟨h1, h2, h3⟩ => ⟨h1, by simpa using h2, h3⟩) ?_
          refine DW.move rfl rfl rfl ct ?_
          refine OW.buildSlice 3 _ rfl rfl rfl eo29 (DArgs.cons rfl ct DArgs.nil) rfl rfl rfl rfl rfl ?_
          refine OW.appendR [.int .i64 (j : Int)] rfl rfl go29 rfl (by kernel_rfl) rfl ct (fun u hu => by simp at hu; subst hu; rfl) (by omega) (by omega) rfl ?_
          refine DW.nil (DW.finX [0, 1, 2, 3, 4, 5, 12, 56, 57, 58, 66, 74] [(0, _, _), (1, _, _), (2, _, _), (3, _, _), (4, _, _), (5, _, _), (12, _, _), (56, _, _), (57, _, _), (58, _, _), (66, _, _), (74, _, _)] rfl [79] rfl fun vs w4 hb4 hs4 => KW.rk' ?_)
          obtain ⟨v79, rfl, h79⟩ := Sats.one hs4
          obtain ⟨h79, _⟩ := h79
          have hO4 : OwnS w4 3 1 v79 ((c ++ [j]).map fun k : Nat => (k : Int)).length (((c ++ [j]).map fun k : Nat => (k : Int)).map (Value.int .i64)) := by simpa using h79
          have hX4 := hX2.below hb4
          have hF4 := hF2.below hb4
          have hSI4 := own_si hO4 (fun q hq => by
            obtain ⟨i, hi, rfl⟩ := List.mem_map.1 hq
            rcases List.mem_append.1 hi with hi | hi
            · exact sl_allI hc _ (List.mem_map.2 ⟨i, hi, rfl⟩)
            · rw [List.mem_singleton] at hi
              subst hi
              have := hX.src.few
              exact ⟨by omega, by omega⟩) (by simp; omega)
          have hchn' : Chn l r lab (c ++ [j]) x.label := hchn.snoc hx hv hxa hjc (by omega)
          refine RW.one (by kernel_rfl) (by kernel_rfl) rfl ?_
          refine TW.call0 rfl rfl en26 rfl (Args.cons rfl ct (Args.cons rfl ct Args.nil)) (ih (min n 3 - (c ++ [j]).length) (by simp; omega) w4 (c ++ [j]) x.label v79 _ _ rfl (by simp; omega) hchn' hSI4 hX4 (by have := (hbutw.step hb2).size; have := hb4.size; omega) hF4) ?_
          rintro y5 w5 ⟨hb5, hF5⟩
          refine TW.nil (KW.pick [0, 1, 2, 3, 4, 5, 12, 56, 57, 58] [(0, _, _), (1, _, _), (2, _, _), (3, _, _), (4, _, _), (5, _, _), (12, _, _), (56, _, _), (57, _, _), (58, _, _)] rfl (KW.rk ?_))
          refine RW.end rfl (KW.pick [0, 1, 2, 3, 4, 5, 12, 56, 57, 58] [(0, _, _), (1, _, _), (2, _, _), (3, _, _), (4, _, _), (5, _, _), (12, _, _), (56, _, _), (57, _, _), (58, _, _)] rfl (KW.blockN (KW.then_ ?_)))
          refine CW.region ?_
          refine TW.add rfl rfl rfl ct rfl ct (fun _ => by (try dsimp only); omega) ?_
          refine TW.move rfl rfl rfl ct ?_
          refine TW.nil (KW.pick [0, 1, 2, 3, 4, 5, 12, 56, 57, 58] [(0, _, _), (1, _, _), (2, _, _), (3, _, _), (4, _, _), (5, _, _), (12, _, _), (56, _, _), (57, _, _), (58, _, _)] rfl ?_)
          refine KW.round (k + 1) [0, 1, 2, 3, 4, 5, 56, 57, 58] rfl ⟨by omega, (hbut2.step hb4).trans hb5, hF5.congr fun e => ?_⟩ (by omega)
          rw [List.take_add_one, hz]
          simp only [Option.toList_some, List.mem_append, List.mem_singleton]
          constructor
          · rintro ((h | ⟨z, hz2, h⟩) | ⟨h1, h2⟩)
            · exact .inl h
            · exact .inr ⟨z, .inl hz2, h⟩
            · exact .inr ⟨_, .inr rfl, j, rfl, hjc, h1, h2⟩
          · rintro (h | ⟨z, hz2 | rfl, i, h1, h2, h3, h4⟩)
            · exact .inl (.inl h)
            · exact .inl (.inr ⟨z, hz2, i, h1, h2, h3, h4⟩)
            · have : i = j := by omega
              subst this
              exact .inr ⟨h3, h4⟩
        · have hjc : j ∈ c := by
            apply Classical.byContradiction
            intro h
            have h2 : ¬ (j : Int) ∈ c.map fun k : Nat => (k : Int) := fun h' => h (nat_mem.1 h')
            rw [decide_eq_false h2] at hno
            simp at hno
          refine CW.skip (KW.blockN (KW.then_ (CW.region ?_)))
          refine TW.add rfl rfl rfl ct rfl ct (fun _ => by (try dsimp only); omega) ?_
          refine TW.move rfl rfl rfl ct ?_
          refine TW.nil (KW.pick [0, 1, 2, 3, 4, 5, 12, 56, 57, 58] [(0, _, _), (1, _, _), (2, _, _), (3, _, _), (4, _, _), (5, _, _), (12, _, _), (56, _, _), (57, _, _), (58, _, _)] rfl ?_)
          refine KW.round (k + 1) [0, 1, 2, 3, 4, 5, 56, 57, 58] rfl ⟨by omega, hbut2, hF2.congr fun e => ?_⟩ (by omega)
          rw [List.take_add_one, hz]
          simp only [Option.toList_some, List.mem_append, List.mem_singleton]
          constructor
          · rintro (h | ⟨z, hz2, h⟩)
            · exact .inl h
            · exact .inr ⟨z, .inl hz2, h⟩
          · rintro (h | ⟨z, hz2 | rfl, i, h1, h2, h3⟩)
            · exact .inl h
            · exact .inr ⟨z, hz2, i, h1, h2, h3⟩
            · have : i = j := by omega
              subst this
              exact absurd hjc h2
      · refine CW.exit (KW.thenX (KW.thenX (KW.blockX ?_)))
        have hke : k = xs.length := by omega
        subst hke
        rw [List.take_length] at hF
        refine end0 Tryd.results26 (⟨hbutw, hF.congr fun e => ?_⟩)
        rw [ext_size hchn hcm e, hS1]
        constructor
        · rintro ((h | h) | ⟨z, hz, i, h1, h2, h3, h4⟩)
          · exact .inl h
          · exact .inr (.inl h)
          · obtain ⟨j, hjz, hjlt, y, hy, hv, hl2⟩ := (hxm z).1 hz
            have : i = j := by omega
            subst this
            exact .inr (.inr ⟨hcn, i, y, hy, hv, hl2, h2, h3, h4⟩)
        · rintro (h | h | ⟨_, m, x, h1, h2, h3, h4, h5, h6⟩)
          · exact .inl (.inl h)
          · exact .inl (.inr h)
          · exact .inr ⟨(m : Int), (hxm _).2 ⟨m, rfl, (List.getElem?_eq_some_iff.1 h1).1, x, h1, h2, h3⟩, m, rfl, h4, h5, h6⟩
end Go.Proofs.YthjcgmjcpmodlaaDoor

namespace Go.Proofs.YthjcgmjcpmodlaaDoor
open Go.PF Go.RowKit Go.Ord Go.Sort

theorem Below.putCtl {n D : Nat} {w0 w : World} {o : Obj} (h : Below n w0 w) (hD : n ≤ D) : Below n w0 (w.putObj D o) :=
  ⟨h.os, h.tape, h.output, by simpa [World.putObj] using h.size, fun i hi => (World.putObj_heap_other (by omega)).trans (h.block i hi)⟩
/-! ### maps.Values, slices.Collect of events -/
abbrev KV := ByteArray × Value
def kvPos (m pre : List KV) (x : KV) : Prop := ((pre ++ [x]).map (·.1)).Nodup ∧ ∀ y ∈ pre ++ [x], y ∈ m
def kvAll (m xs : List KV) : Prop := (xs.map (·.1)).Nodup ∧ ∀ y, y ∈ xs ↔ y ∈ m
def evLike (v : Value) : Prop := ∃ e A n c, v = .agg (evV e (.slice A n c)).toArray

set_option maxRecDepth 20000 in
theorem values_iter {w : World} {g bm : Nat} {m : List KV} (hg : Blk w g 58 [.map (some bm)]) (hm : MapL sK w bm m) (hmv : ∀ p ∈ m, evLike p.2) :
    IterOK Tryd.prog 45 [.pointer (some ⟨g, 0, none⟩)] (fun x : KV => [x.2]) (kvPos m) (kvAll m) (fun k => k = g ∨ k = bm) w := by
  intro yl J Jx W M hown hsz hyl hM hMlt hJ hJx hy h0
  have hgW : Blk W g 58 [.map (some bm)] := (hown g (.inl rfl) hg.lt).trans hg
  have hmW : MapL sK W bm m := hm.kept (hown bm (.inr rfl) hm.lt)
  refine gives_of (vs := [.func (.yield yl) #[] #[], .pointer (some ⟨g, 0, none⟩)]) [(0, none, _), (1, none, _)] Tryd.func45 rfl Tryd.ntmps45 rfl rfl ?_
  refine CW.seq (CW.region ?_)
  refine TW.load rfl rfl one58 rfl ct (fun _ => hgW.cell 0) ?_
  refine TW.rangeM sK rfl rfl Tryd.underlying58 rfl hmW ?_
  rintro it w1 hit hw1 hb1 hwk
  refine TW.nil (KW.pick [0, 1, 6] [(0, _, _), (1, _, _), (6, _, _)] rfl (KW.then_ ?_))
  refine CW.block ?_
  refine CW.loopS (fun x : List KV × (Nat → Prop) × Option KV => [(0, none, .func (.yield yl) #[] #[]), (6, none, .pointer (some ⟨it, 0, none⟩))])
    (fun x W' => J x.1 x.2.1 W' ∧ WalkM sK W' it bm m (x.1.map (·.1)) x.2.2 ∧ W.heap.size < W'.heap.size ∧ (∀ k, x.2.1 k → k < W'.heap.size) ∧ ¬ x.2.1 it ∧ ¬ x.2.1 bm ∧ (x.1.map (·.1)).Nodup ∧ ∀ y ∈ x.1, y ∈ m)
    (fun x => m.length - x.1.length) ([], M, none) [0, 6]
    ⟨hJ _ _ _ _ h0 (.of_below hb1), hwk, by show W.heap.size < w1.heap.size; omega, fun k hk => by have := hMlt k hk; show k < w1.heap.size; omega, fun h => by have := hMlt _ h; omega, (hM bm (.inr rfl)).1, List.nodup_nil, fun y hy => by cases hy⟩ rfl ?_
  rintro ⟨pre, M1, lst⟩ W1 ⟨hj, hwk1, hsz1, hM1, hMit, hMbm, hnd, hsub⟩
  dsimp only at hj hwk1 hM1 hMit hMbm hnd hsub hsz1
  refine CW.seq (CW.region ?_)
  refine TW.nextM sK rfl rfl rfl hwk1 (fun hall => ?_) (fun k v w2 hkv hkn' hs2 hbut2 hext2 hwk2 => ?_)
  · skip
    refine TW.extract rfl rfl rfl rfl ct ?_
    refine TW.nil (KW.pick [0, 6, 8] [(0, _, _), (6, _, _), (8, _, _)] rfl (KW.then_ ?_))
    refine CW.seq ?_
    refine CW.cond rfl (fun h1 => ?_) (fun h2 => ?_)
    · exact absurd h1 (by simp)
    · refine CW.exit (KW.thenX (KW.thenX (KW.blockX ?_)))
      refine end0 Tryd.results45 (.inl ⟨pre, M1, ⟨hnd, fun y => ⟨fun h => hsub y h, fun h => ?_⟩⟩, hj⟩)
      have hk := hall y h
      rw [List.mem_map] at hk
      obtain ⟨p, hp, hpe⟩ := hk
      have hpm := hsub p hp
      have e2 := once_one hm.once (r := y.1) (v := p.2) (v' := y.2) (by rw [← hpe]; exact hpm) h
      have : p = y := Prod.ext hpe e2
      exact this ▸ hp
  · skip
    refine TW.extract rfl rfl rfl rfl ct ?_
    refine TW.nil (KW.pick [0, 6, 8] [(0, _, _), (6, _, _), (8, _, _)] rfl (KW.then_ ?_))
    refine CW.seq ?_
    refine CW.cond rfl (fun h1 => ?_) (fun h2 => ?_)
    · obtain ⟨e0, A0, n0, c0, hve⟩ : evLike v := hmv _ hkv
      subst hve
      refine CW.skip (KW.then_ (CW.block (CW.seq (CW.region ?_))))
      refine TW.entryM sK rfl rfl rfl hwk2 ?_
      refine TW.extract rfl rfl rfl rfl ct ?_
      refine TW.newVar rfl zc31 rfl sz31 rfl rfl ?_
      rintro g3 w3 f3
      refine TW.nil (KW.pick [0, 4, 6] [(0, _, _), (4, _, _), (6, _, _)] rfl (KW.then_ ?_))
      refine CW.seq (CW.region ?_)
      refine TW.move rfl rfl rfl ct ?_
      have hpos : kvPos m pre (k, .agg (evV e0 (.slice A0 n0 c0)).toArray) := by
        refine ⟨?_, fun y hy => ?_⟩
        · rw [List.map_append]
          refine List.nodup_append.2 ⟨hnd, by simp, fun a ha b hb e => ?_⟩
          simp at hb
          subst hb
          subst e
          exact hkn' ha
        · rcases List.mem_append.1 hy with h | h
          · exact hsub y h
          · rw [List.mem_singleton] at h
            subst h
            exact hkv
      have hj2 : J pre M1 w2 := hJ _ _ _ _ hj (hext2.less (by omega))
      have hj3 : J pre M1 w3 := hJ _ _ _ _ hj2 (.of_below f3.below)
      have hs3 := f3.below.size
      have hitlt : it < w2.heap.size := by obtain ⟨o, ho, _⟩ := hwk2.iter; exact (Array.getElem?_eq_some_iff.1 ho).1
      have hbmlt : bm < w2.heap.size := by have := hmW.lt; omega
      have hwk3 := hwk2.kept (f3.below.block it hitlt) (f3.below.block bm hbmlt)
      refine TW.loadS _ rfl rfl Tryd.underlying31 sz31 rfl ct (fun _ => (fun _ _ hv => f3.blk.fld hv)) rfl ?_
      refine TW.yield rfl rfl rfl (Args.cons rfl ct Args.nil) (hy pre (k, .agg (evV e0 (.slice A0 n0 c0)).toArray) M1 w3 hj3 hpos (fun q hq => by have := hM1 q hq; omega) (by omega)) ?_
      rintro yb W3 hR
      refine TW.not rfl rfl rfl ct ?_
      refine TW.nil (KW.pick [0, 4, 6, 14] [(0, _, _), (4, _, _), (6, _, _), (14, _, _)] rfl (KW.then_ ?_))
      refine CW.cond rfl (fun hno => ?_) (fun hgo => ?_)
      · refine CW.ret (KW.blockR (KW.thenR (KW.blockR ?_)))
        refine ret0 Tryd.results45 (.inr ?_)
        obtain ⟨M', hx⟩ := hR.no (by simpa using hno)
        exact ⟨_, M', hx⟩
      · refine CW.skip (KW.blockN ?_)
        obtain ⟨M', hj3, hm3⟩ := hR.yes (by simpa using hgo)
        refine KW.round (pre ++ [(k, .agg (evV e0 (.slice A0 n0 c0)).toArray)], M', some (k, .agg (evV e0 (.slice A0 n0 c0)).toArray)) [0, 6] rfl ⟨hj3, by rw [List.map_append]; exact hwk3.kept (hR.kept it (by omega) hMit (by omega)) (hR.kept bm (by omega) hMbm (hM bm (.inr rfl)).2), by have := hR.size; show W.heap.size < W3.heap.size; omega, fun q hq => (hm3 q hq).2, fun h => ?_, fun h => ?_, hpos.1, hpos.2⟩ ?_
        · rcases (hm3 _ h).1 with h | h
          · exact hMit h
          · omega
        · rcases (hm3 _ h).1 with h | h
          · exact hMbm h
          · omega
        · have hle := nodup_len (l := (pre ++ [(k, Value.agg (evV e0 (.slice A0 n0 c0)).toArray)]).map (·.1)) (k := m.map (·.1)) hpos.1 (fun y hy => by
            obtain ⟨p, hp, rfl⟩ := List.mem_map.1 hy
            exact List.mem_map.2 ⟨p, hpos.2 p hp, rfl⟩)
          show m.length - (pre ++ [_]).length < m.length - pre.length
          simp at hle ⊢
          omega
    · exact absurd h2 (by simp)

theorem values_c {w : World} {bm : Nat} : Gives Tryd.prog 32 #[.map (some bm)] w fun u w' => Below w.heap.size w w' ∧ ∃ g, u = .func (.func 45) #[] [.pointer (some ⟨g, 0, none⟩)].toArray ∧ Blk w' g 58 [.map (some bm)] := by
  refine gives_of (vs := [.map (some bm)]) [(0, none, _)] Tryd.func32 rfl Tryd.ntmps32 rfl rfl ?_
  refine CW.seq (CW.region ?_)
  refine TW.box rfl rfl rfl rfl ?_
  rintro g w1 f1
  refine TW.assign rfl rfl rfl ct ?_
  refine TW.nil (KW.pick [0, 1, 2] [(0, _, _), (1, _, _), (2, _, _)] rfl (KW.then_ ?_))
  refine CW.seq (CW.region ?_)
  refine TW.makeFunc rfl rfl (Args.cons rfl ct Args.nil) ?_
  refine TW.assign rfl rfl rfl ct ?_
  refine TW.nil (KW.pick [0, 1, 2] [(0, _, _), (1, _, _), (2, _, _)] rfl (KW.then_ ?_))
  refine CW.ret ?_
  refine ret1 Tryd.results32 rfl (⟨f1.below, g, rfl, f1.blk⟩)

theorem IterOK.later {α : Type} {gf : FuncId} {cap : List Value} {enc : α → List Value} {Pos : List α → α → Prop} {Done : List α → Prop} {own : Nat → Prop} {w w' : World} (h : IterOK Tryd.prog gf cap enc Pos Done own w) (hb : Below w.heap.size w w') : IterOK Tryd.prog gf cap enc Pos Done own w' := by
  intro l J Jx W M h1 h2
  exact h l J Jx W M (fun k hk hlt => (h1 k hk (Nat.lt_of_lt_of_le hlt hb.size)).trans (hb.block k hlt)) (Nat.le_trans hb.size h2)
def evCells (xs : List KV) : List Value := xs.flatMap fun p => p.2.cells.toList
theorem evCells_snoc (pre : List KV) (k : ByteArray) (e : Ev) (v : Value) : evCells (pre ++ [(k, .agg (evV e v).toArray)]) = evCells pre ++ evV e v := by
  unfold evCells
  rw [List.flatMap_append]
  simp [Value.cells]

set_option maxRecDepth 20000 in
theorem appendSeq_c {w : World} {gf : FuncId} {cap : List Value} {Pos : List KV → KV → Prop} {Done : List KV → Prop} {own : Nat → Prop} (hit : IterOK Tryd.prog gf cap (fun x : KV => [x.2]) Pos Done own w) (hen : enters Tryd.prog gf = true) (hown : ∀ k, own k → k < w.heap.size) (hbd : ∀ pre x, Pos pre x → pre.length ≤ 100000000000 ∧ evLike x.2) :
    Gives Tryd.prog 79 #[.slice none 0 0, .func (.func gf) #[] cap.toArray] w fun v w' => Below w.heap.size w w' ∧ ∃ xs, Done xs ∧ OwnS w' 31 4 v xs.length (evCells xs) ∧ ∀ g, v.ownBlock = some g → w.heap.size ≤ g := by
  refine gives_ofM (vs := [.slice none 0 0, .func (.func gf) #[] cap.toArray]) [(0, none, _), (1, none, _)] Tryd.func79 rfl Tryd.ntmps79 rfl rfl ?_
  refine CW.seq (CW.region ?_)
  refine TW.box rfl rfl rfl rfl ?_
  rintro g2 w1 f1
  refine TW.assign rfl rfl rfl ct ?_
  refine TW.nil (KW.pick [0, 1, 2, 4] [(0, _, _), (1, _, _), (2, _, _), (4, _, _)] rfl (KW.then_ ?_))
  refine CW.seq (CW.seq (CW.region ?_))
  refine TW.move rfl rfl rfl ct ?_
  refine TW.nil (KW.pick [0, 1, 2, 4, 6] [(0, _, _), (1, _, _), (2, _, _), (4, _, _), (6, _, _)] rfl (KW.then_ ?_))
  refine CW.block ?_
  have hg2 := f1.at_
  have hs1 := f1.size
  refine CW.range rfl hen (IterOK.later hit f1.below) rfl (fun _ => rfl)
    (fun pre M W => Below w.heap.size w W ∧ ∃ vf, Blk W g2 26 [vf] ∧ OwnS W 31 4 vf pre.length (evCells pre) ∧ (∀ q, vf.ownBlock = some q → w1.heap.size ≤ q) ∧ M = fun k => k = g2 ∨ vf.ownBlock = some k)
    (fun c pre M W => False) (fun k => k = g2)
    (fun k hk => by subst hk; exact ⟨by omega, fun h => by have := hown _ h; omega⟩) (fun k hk => by have := hown k hk; omega)
    (fun pre M W1 W2 ⟨a1, vf, a2, a3, a4, a5⟩ hx => ⟨(hx.less (by omega)).below a1 (Nat.le_refl _), vf, a2.ext hx, a3.ext hx, a4, a5⟩)
    (fun c pre M W1 W2 h hx => h)
    ⟨f1.below, .slice none 0 0, f1.blk, OwnS.nil _ _ _, fun q hq => by simp [Value.ownBlock] at hq, by funext k; simp [Value.ownBlock]⟩ ?_ ?_ ?_
  · rintro D L pre p M W hD hL ⟨a1, vf, a2, a3, a4, rfl⟩ hpos hMlt hML hMD hrec
    obtain ⟨hpl, e0, A0, n0, c0, hpe⟩ := hbd pre p hpos
    obtain ⟨pk, pv⟩ := p
    dsimp only at hpe
    subst hpe
    refine CW.region ?_
    refine TW.newVar rfl zc31 rfl sz31 rfl rfl ?_
    rintro g5 w5 f5
    refine TW.nil (KW.pick [0, 1, 2, 4, 5, 7] [(0, _, _), (1, _, _), (2, _, _), (4, _, _), (5, _, _), (7, _, _)] rfl ?_)
    have hrecb := hrec.kept (f5.below.block L hrec.lt)
    have a1 := a1.step f5.below
    have a2 := a2.next f5.below
    have a3 := a3.below f5.below
    have hf5 := f5.below.size
    have hrl := hrec.lt
    refine KW.begin hrecb fun W2 hx hsz hk hrec2 => ?_
    have a2' : Blk W2 g2 26 [vf] := a2.ext hx
    have a3' := a3.ext hx
    have a1' : Below w.heap.size w W2 := (hx.less (by omega)).below a1 (Nat.le_refl _)
    have hB5 := f5.blk.ext hx
    refine CW.block (CW.region ?_)
    refine TW.load rfl rfl one26 rfl ct (fun _ => a2'.cell 0) ?_
    refine TW.loadS _ rfl rfl Tryd.underlying31 sz31 rfl ct (fun _ => (fun _ _ hv => hB5.fld hv)) rfl ?_
    refine TW.buildSlice 31 _ rfl rfl rfl eo26 (Args.cons rfl ct Args.nil) rfl rfl rfl rfl rfl ?_
    rintro g3 w3 f3
    have o3 := a3'.below f3.below
    refine TW.append (evV e0 (.slice A0 n0 c0)) rfl rfl go26 rfl o3 rfl rfl (fun j v hj => ⟨⟨g3, 0, none⟩, rfl, f3.blk.fld hj⟩) (fun v hv => by simp [evV] at hv; rcases hv with rfl | rfl | rfl | rfl <;> rfl) (by omega) (by omega) ?_
    rintro vf' w4 o4 hg4 hn4
    have s3 := f3.below.size
    have hL2 : L < W2.heap.size := hrec2.lt
    have hvlt : ∀ q, vf.ownBlock = some q → q < W2.heap.size := fun q hq => a3'.lt hq
    have hLv : vf.ownBlock ≠ some L := fun e => hML (.inr e)
    have hDv : vf.ownBlock ≠ some D := fun e => hMD (.inr e)
    have hLg : L ≠ g2 := fun e => hML (.inl e)
    have hDg : D ≠ g2 := fun e => hMD (.inl e)
    have b4 : Blk w4 g2 26 [vf] := GB.blk hg4 (a2'.next f3.below) (fun e => by have := a4 _ e; omega)
    obtain ⟨A4, c4, hv4, _⟩ := o4.form
    have h14 : vf'.oneCell' = true := by rw [hv4]; rfl
    refine TW.store1 rfl sz26 rfl rfl (b4.cell 0) (b4.frozen 0) h14 ?_
    have rec4 : w4.heap[L]? = W2.heap[L]? := (hg4.block L (by omega) (fun e => hLv e.symm)).trans (f3.below.block L hL2)
    have hw4 : Below w.heap.size w w4 := (a1'.step f3.below).grown hg4 (a1'.step f3.below).size (fun q hq => by have := a4 q hq; omega)
    have hsz4 : W2.heap.size ≤ w4.heap.size := Nat.le_trans s3 hg4.size
    have hnew : ∀ q, vf'.ownBlock = some q → vf.ownBlock = some q ∨ q = w3.heap.size := fun q hq => by
      rcases hn4 with h | h
      · exact .inl (by rw [← h]; exact hq)
      · rw [h] at hq; cases hq; exact .inr rfl
    have hw1 : w1.heap.size ≤ W2.heap.size := by omega
    have o5 : OwnS (w4.setCell ⟨g2, 0, none⟩ vf') 31 4 vf' (pre.length + 1) (evCells pre ++ evV e0 (.slice A0 n0 c0)) := o4.kept fun q hq => Below.heap_setCell _ _ _ _ (fun e => by
      have e : q = g2 := e
      rcases hnew q hq with h | h
      · have := a4 q h; omega
      · omega)
    refine KW.endN (hrec2.kept ((Below.heap_setCell _ _ _ _ (by show L ≠ g2; exact hLg)).trans rec4)) fun W5 hx5 hsz5 hk5 hrec5 => ?_
    have hs5 : W5.heap.size = w4.heap.size := by rw [hsz5]; simp
    refine ⟨by omega, fun k hk1 hk2 hk3 => ?_, fun _ => ⟨fun k => k = g2 ∨ vf'.ownBlock = some k, ⟨⟨(hx5.less (by omega)).below (hw4.setCell (by show w.heap.size ≤ g2; omega) _) (Nat.le_refl _), vf', (b4.set 0 vf').ext hx5, by rw [evCells_snoc]; simpa using o5.ext hx5, fun q hq => ?_, rfl⟩, fun h => ?_, fun h => ?_, hrec5⟩, fun k hk => ?_⟩, fun h => by cases h⟩
    · refine (hk5 k hk3).trans ((Below.heap_setCell _ _ _ _ (fun e => hk2 (.inl e))).trans ((hg4.block k (by omega) (fun e => hk2 (.inr e.symm))).trans ((f3.below.block k (by omega)).trans ((hk k hk3).trans (f5.below.block k hk1)))))
    · rcases hnew q hq with h | h
      · exact a4 q h
      · omega
    · rcases h with h | h
      · exact hLg h
      · rcases hnew L h with h | h
        · exact hLv h
        · omega
    · rcases h with h | h
      · exact hDg h
      · rcases hnew D h with h | h
        · exact hDv h
        · omega
    · rcases hk with rfl | hk
      · exact ⟨.inl (.inl rfl), by omega⟩
      · rcases hnew k hk with h | h
        · exact ⟨.inl (.inr h), by have := hvlt k h; omega⟩
        · refine ⟨.inr (by omega), ?_⟩
          have := o4.lt hk
          omega
  · rintro D xs M W hD hdone ⟨a1, vf, a2, a3, a4, rfl⟩ hdef
    refine KW.blockN (KW.then_ ?_)
    refine CW.seq (CW.region ?_)
    refine TW.load rfl rfl one26 rfl ct (fun _ => a2.cell 0) ?_
    refine TW.assign rfl rfl rfl ct ?_
    refine TW.nil (KW.pick [0, 1, 2, 4] [(0, _, _), (1, _, _), (2, _, _), (4, _, _)] rfl (KW.then_ ?_))
    refine CW.ret ?_
    have hgD : g2 ≠ D := fun e => by subst e; unfold Blk at a2; rw [hdef] at a2; cases a2
    refine ret1M Tryd.results79 rfl hdef ⟨Below.putCtl a1 (by omega), xs, hdone, a3.kept fun q hq => World.putObj_heap_other (fun e => ?_), fun q hq => by have := a4 q hq; omega⟩
    subst e
    rcases a3.2 with ⟨rfl, _⟩ | ⟨g', cap', cur, hv, _, hh, _⟩
    · simp [Value.ownBlock] at hq
    · rw [hv] at hq
      simp [Value.ownBlock] at hq
      subst hq
      rw [hdef] at hh
      cases hh
  · rintro D c pre M W hD h
    exact h.elim

theorem collect_c {w : World} {gf : FuncId} {cap : List Value} {Pos : List KV → KV → Prop} {Done : List KV → Prop} {own : Nat → Prop} (hit : IterOK Tryd.prog gf cap (fun x : KV => [x.2]) Pos Done own w) (hen : enters Tryd.prog gf = true) (hown : ∀ k, own k → k < w.heap.size) (hbd : ∀ pre x, Pos pre x → pre.length ≤ 100000000000 ∧ evLike x.2) :
    Gives Tryd.prog 65 #[.func (.func gf) #[] cap.toArray] w fun v w' => Below w.heap.size w w' ∧ ∃ xs, Done xs ∧ OwnS w' 31 4 v xs.length (evCells xs) ∧ ∀ g, v.ownBlock = some g → w.heap.size ≤ g := by
  refine gives_of (vs := [.func (.func gf) #[] cap.toArray]) [(0, none, _)] Tryd.func65 rfl Tryd.ntmps65 rfl rfl ?_
  refine CW.seq (CW.region ?_)
  refine TW.assign rfl rfl rfl ct ?_
  refine TW.nil (KW.pick [0, 2] [(0, _, _), (2, _, _)] rfl (KW.then_ ?_))
  refine CW.seq (CW.region ?_)
  refine TW.move rfl rfl rfl ct ?_
  refine TW.call0 (cap := []) rfl rfl en79 rfl (Args.cons rfl ct (Args.cons rfl ct Args.nil)) (appendSeq_c hit hen hown hbd) ?_
  rintro y1 w1 h1
  refine TW.assign rfl rfl rfl ct ?_
  refine TW.nil (KW.pick [0, 2] [(0, _, _), (2, _, _)] rfl (KW.then_ ?_))
  refine CW.ret ?_
  refine ret1 Tryd.results65 rfl (h1)

end Go.Proofs.YthjcgmjcpmodlaaDoor

namespace Go.Proofs.YthjcgmjcpmodlaaDoor
open Go.PF Go.RowKit Go.Ord Go.Sort Go.Proofs

/-! ### slices.SortFunc of events -/
theorem belD_grow {w w' : World} (h : BelD w w') : ∃ q os', w' = grow (w.drewN q) os' := by
  refine ⟨w'.drawn - w.drawn, (w'.heap.toList.drop w.heap.size).toArray, ?_⟩
  have hh : w'.heap = w.heap ++ (w'.heap.toList.drop w.heap.size).toArray := by
    apply Array.ext'
    rw [Array.toList_append]
    have : w'.heap.toList.take w.heap.size = w.heap.toList := by
      apply List.ext_getElem?
      intro i
      by_cases hi : i < w.heap.size
      · rw [List.getElem?_take_of_lt hi, Array.getElem?_toList, Array.getElem?_toList]
        exact h.b.block i hi
      · rw [List.getElem?_take_eq_none (by omega), List.getElem?_eq_none (by simp; omega)]
    rw [← this]
    simp
  have hd : w'.drawn = w.drawn + (w'.drawn - w.drawn) := by have := h.d; omega
  obtain ⟨a1, a2, a3, a4, a5⟩ := w'
  have e1 : a4 = w.os := h.b.os
  have e2 : a2 = w.tape := h.b.tape
  have e3 : a5 = w.output := h.b.output
  subst e1; subst e2; subst e3
  simp only [grow, World.drewN] at hh hd ⊢
  rw [← hh, ← hd]
def FsK (base : Nat) (w : World) (v : Value) (k : Nat) : Prop := base ≤ k ∧ k < w.heap.size ∧ v.ownBlock ≠ some k
/-- events that lie elsewhere than in the row v -/
abbrev EvA (base : Nat) (w : World) (v : Value) := {p : Ev × Value // EvOK (FsK base w v) w p.2 p.1 ∧ p.1.needs.length ≤ 1000000}
def encA {base : Nat} {w : World} {v : Value} (y : EvA base w v) : List Value := evV y.1.1 y.1.2
theorem encA_one {base : Nat} {w : World} {v : Value} (y : EvA base w v) : ∀ u ∈ encA y, u.oneCell' = true := fun u hu => by
  obtain ⟨A, c, hv, _⟩ := y.2.1.nd.form
  simp [encA, evV] at hu
  rcases hu with rfl | rfl | rfl | rfl
  · rfl
  · rfl
  · rfl
  · rw [hv]; rfl
def cfA {base : Nat} {w : World} {v : Value} (x y : EvA base w v) : Int := cmpE x.1.1 y.1.1
theorem ltA {base : Nat} {w : World} {v : Value} (x y : EvA base w v) : ltOf cfA x y = decide (cmpE x.1.1 y.1.1 < 0) := rfl
theorem swoA {base : Nat} {w : World} {v : Value} : SWO (ltOf (cfA (base := base) (w := w) (v := v))) where
  irrefl x := by rw [ltA, cmpE_zero.2 rfl]; rfl
  trans x y z h1 h2 := by
    rw [ltA, decide_eq_true_eq] at *
    exact cmpL_trans h1 h2
  ntrans x y z h1 h2 := by
    rw [ltA, decide_eq_false_iff_not] at *
    intro h3
    rcases Classical.em (cmpE y.1.1 x.1.1 < 0) with h4 | h4
    · exact h2 (by
        have h5 : cmpE y.1.1 z.1.1 < 0 := cmpL_trans h4 h3
        exact h5)
    · have e1 := cmpL_anti (keyE x.1.1) (keyE y.1.1)
      have h0 : cmpE x.1.1 y.1.1 = 0 := by unfold cmpE at *; omega
      have e2 := cmpE_zero.1 h0
      rw [e2] at h3
      exact h2 h3

theorem flatK_list {base : Nat} {w : World} {v : Value} [Inhabited (EvA base w v)] (ys : List (EvA base w v)) : flatK encA 4 ys.toArray = (ys.flatMap encA).toArray := by
  have hlen : (ys.flatMap encA).length = ys.length * 4 := by
    rw [List.length_flatMap]
    induction ys with
    | nil => rfl
    | cons y ys ih => simp only [List.map_cons, List.sum_cons, List.length_cons, ih]; show 4 + _ = _; omega
  apply Array.ext
  · simp [hlen]
  · intro t h1 h2
    have ht : t < ys.length * 4 := by simpa using h1
    have h3 := get_flatK encA 4 ys.toArray t (by simpa using ht)
    rw [getElem!_pos _ t h1] at h3
    rw [h3]
    have hq : t / 4 < ys.length := by omega
    have hr : t % 4 < 4 := by omega
    have h4 := flatP_at 4 (ys.map fun y => (encA y, ())) (fun p hp => by obtain ⟨y, _, rfl⟩ := List.mem_map.1 hp; rfl) (t / 4) (t % 4) (encA ys[t / 4], ()) (by simp [hq]) hr
    rw [show t / 4 * 4 + t % 4 = t by omega] at h4
    have e : (ys.map fun y => (encA y, ())).flatMap (·.1) = ys.flatMap encA := by rw [List.flatMap_map]
    rw [e] at h4
    rw [List.getElem_toArray]
    have h5 : (ys.flatMap encA)[t]? = some ((ys.flatMap encA)[t]'(by simpa using h2)) := List.getElem?_eq_getElem _
    rw [h5] at h4
    have h6 : (ys.toArray)[t / 4]! = ys[t / 4] := by simp [hq]
    rw [h6]
    have h7 : t % 4 < (encA ys[t / 4]).length := hr
    rw [getElem!_pos _ (t % 4) h7]
    have h8 : (encA ys[t / 4])[t % 4]? = some ((encA ys[t / 4])[t % 4]) := List.getElem?_eq_getElem h7
    rw [h8] at h4
    exact (Option.some.inj h4).symm
theorem heap_sortedV {w : World} {g n : Nat} {os : Array Obj} {cur : Array Value} {e : TypeId} {fr : Nat × Nat} (d : Array Value) (hb : w.heap[g]? = some (.cells cur e fr)) :
    (grow (putRow id (Sort.ahead w n) g 0 d) os).heap[g]? = some (.cells (putCells id 0 d cur) e fr) := by
  have hg : g < w.heap.size := (Array.getElem?_eq_some_iff.1 hb).1
  rw [heap_grow_old _ _ (by simpa using hg)]
  simp [putRow, mapBlock, Sort.ahead, Array.getElem?_modify, hb, onCells]
theorem grownBy_sortedV {w : World} {g n : Nat} {os : Array Obj} (d : Array Value) : w.grownBy (grow (putRow id (Sort.ahead w n) g 0 d) os) (some g) := by
  refine ⟨rfl, rfl, rfl, by simp, fun k hk hne => ?_⟩
  rw [heap_grow_old _ _ (by simpa using hk)]
  have : g ≠ k := fun e => hne (by rw [e])
  simp [putRow, mapBlock, Sort.ahead, Array.getElem?_modify, this]
theorem take_putCellsV (cur : Array Value) (ts : List Value) (h : ts.length ≤ cur.size) : (putCells id 0 ts.toArray cur).toList.take ts.length = ts := by
  apply List.ext_getElem?
  intro j
  by_cases hj : j < ts.length
  · rw [List.getElem?_take_of_lt hj, Array.getElem?_toList]
    simp [putCells, hj, show j < cur.size by omega]
  · rw [List.getElem?_take_eq_none (by omega), List.getElem?_eq_none (by omega)]

set_option maxRecDepth 20000 in
theorem sortE_c {base : Nat} {w : World} {v : Value} {ys : List (EvA base w v)} {g : Nat} {c0 : List Value} (hc0 : c0 = [.pointer (some ⟨g, 0, none⟩)]) (hO : OwnS w 31 4 v ys.length (ys.flatMap encA)) (hn : ys.length ≤ 100000000000) (hB : Blk w g 67 [.func (.func 33) #[] #[]]) (hgv : v.ownBlock ≠ some g) :
    Gives Tryd.prog 66 #[v, .func (.func 43) #[] c0.toArray] w fun _ w' => w.grownBy w' v.ownBlock ∧ ∃ zs : List (EvA base w v), zs.Perm ys ∧ zs.Pairwise (fun a b => ¬ cmpE b.1.1 a.1.1 < 0) ∧ OwnS w' 31 4 v zs.length (zs.flatMap encA) := by
  subst hc0
  rcases Classical.em (ys = []) with h0 | hne
  · subst h0
    obtain ⟨A, cap, hv, _⟩ := hO.form
    have h : Calls Tryd.prog 66 #[.slice A 0 cap, .func (.func 43) #[] [.pointer (some ⟨g, 0, none⟩)].toArray] w _ := AnyF.slices_SortFunc_none Tryd.laysSF A cap _ w
    rw [hv]
    refine Calls.mono h ?_
    rintro e w' ⟨rfl, rfl⟩
    rw [hv] at hO
    exact ⟨_, rfl, GB.refl _, [], List.Perm.refl _, List.Pairwise.nil, hO⟩
  · obtain ⟨y0, _⟩ := List.exists_mem_of_ne_nil ys hne
    haveI : Inhabited (EvA base w v) := ⟨y0⟩
    rcases hO.2 with ⟨_, h0⟩ | ⟨b, cap, cur, hv, hb, hh, h1, h2, h3, h4⟩
    · exact absurd (List.eq_nil_of_length_eq_zero h0) hne
    have hblk : b < w.heap.size := (Array.getElem?_eq_some_iff.1 hh).1
    have hown : v.ownBlock = some b := by rw [hv]; rfl
    have hfl := flatK_list ys
    have hlen : (ys.flatMap encA).length = ys.length * 4 := hO.1
    have hH : HoldsK (encA (base := base) (w := w) (v := v)) 4 w b 0 ys.toArray := by
      unfold HoldsK
      rw [hfl]
      intro j hj
      have hj' : j < (ys.flatMap encA).length := by simpa using hj
      refine ⟨?_, by simp [World.frozen?, hh]⟩
      have h5 : (cur.toList.take (ys.length * 4))[j]? = (ys.flatMap encA)[j]? := by rw [h4]
      rw [List.getElem?_take_of_lt (by omega)] at h5
      simp only [World.cell?, hh, Nat.zero_add]
      simp only [Option.isSome_none, Bool.false_eq_true, if_false]
      rw [← Array.getElem?_toList, h5]
      rw [getElem!_pos _ j hj]
      simp
    obtain ⟨cb, hcb⟩ : ∃ cb : Array Value, cb = [Value.pointer (some ⟨g, 0, none⟩)].toArray := ⟨_, rfl⟩
    obtain ⟨kf, hkf⟩ : ∃ kf : Nat, kf = 43 := ⟨_, rfl⟩
    have hcmp : CmpLays Tryd.prog kf cb (encA (base := base) (w := w) (v := v)) 4 cfA b 0 ys.toArray.size w := by
      intro m os dk hdk x y
      rw [hcb, hkf]
      have hgb : w.grownBy (sortWorldK (encA (base := base) (w := w) (v := v)) 4 w b 0 m dk os) (some b) := grownBy_sortedV _
      have hkp : Kept (FsK base w v) w (sortWorldK (encA (base := base) (w := w) (v := v)) 4 w b 0 m dk os) := Kept.of_blocks fun k hk hlt => hgb.block k hlt (fun e => hk.2.2 (by rw [hown]; exact e.symm))
      have up : ∀ z : EvA base w v, EvOK (FsK base w v) (sortWorldK (encA (base := base) (w := w) (v := v)) 4 w b 0 m dk os) z.1.2 z.1.1 := fun z => ⟨z.2.1.i1, z.2.1.i2, z.2.1.i3, z.2.1.nd.mono hkp⟩
      have hBW : Blk (sortWorldK (encA (base := base) (w := w) (v := v)) 4 w b 0 m dk os) g 67 [.func (.func 33) #[] #[]] := GB.blk hgb hB (fun e => hgv (by rw [hown]; exact e))
      refine Calls.mono (sorted1_c (up x) (up y) x.2.2 y.2.2 hBW) ?_
      rintro e w' ⟨u, rfl, hbd, rfl⟩
      exact ⟨rfl, belD_grow hbd⟩
    have aE : ∀ W, (isAgg (Tryd.laysSF_ren.t 24)).run Tryd.prog W = .ok true W := Tryd.isAgg31
    have zE : ∀ W, (Go.sizeOf (Tryd.laysSF_ren.t 24)).run Tryd.prog W = .ok 4 W := Tryd.sizeOf31
    have hk4 : ∀ y : EvA base w v, (encA y).length = 4 := fun _ => rfl
    have heg : ∀ (args : Array Value) (W : World), (callFunc kf args).run Tryd.prog W = .ok (.enter kf args) W := fun args W => by rw [hkf]; exact run_enters en43 args W
    have hys : ys.toArray.size < 4611686018427387904 := by simp; omega
    have h := AnyQ.slices_SortFunc (α := EvA base w v) Tryd.laysSF 4 aE zE encA hk4 encA_one cfA swoA kf cb b 0 cap ys.toArray w heg hcmp hH hblk hys
    change Calls Tryd.prog 66 _ _ _ at h
    have hsz : ys.toArray.size = ys.length := by simp
    rw [hsz, ← hv, hcb, hkf] at h
    refine Calls.mono h ?_
    rintro e w' ⟨rfl, d', n, os, ⟨hp1, _, hp2⟩, hs, rfl⟩
    have hp1' : d'.size = ys.length := by simpa using hp1
    have hd : d' = d'.toList.toArray := by simp
    have hperm : d'.toList.Perm ys := by
      have e1 : (d'.extract 0 ys.length).toList = d'.toList := by rw [← hp1']; simp
      have e2 : (ys.toArray.extract 0 ys.length).toList = ys := by simp
      rw [e1, e2] at hp2
      exact hp2
    have hfl2 := flatK_list d'.toList
    rw [← hd] at hfl2
    have hzl : d'.toList.length = ys.length := by simpa using hp1'
    have hl2 : (d'.toList.flatMap encA).length = ys.length * 4 := by
      have := congrArg Array.size hfl2
      simp only [size_flatK, List.size_toArray] at this
      rw [← this, hp1']
    refine ⟨_, rfl, hown ▸ grownBy_sortedV _, d'.toList, hperm, ?_, ?_⟩
    · rw [List.pairwise_iff_getElem]
      intro i j hi hj hij
      have h6 := hs i j (Nat.zero_le _) hij (by omega)
      rw [ltA, decide_eq_false_iff_not] at h6
      have hi' : i < d'.size := by simpa using hi
      have hj' : j < d'.size := by simpa using hj
      rw [getElem!_pos d' i hi', getElem!_pos d' j hj'] at h6
      simpa using h6
    · refine ⟨by rw [hl2, hzl], .inr ⟨b, cap, putCells id 0 (flatK encA 4 d') cur, hv.trans (by rw [hzl]), hb, ?_, by omega, h2, ?_, ?_⟩⟩
      · exact heap_sortedV _ hh
      · simp [putCells, h3]
      · rw [hfl2, hzl, ← hl2]
        exact take_putCellsV cur _ (by rw [hl2, h3]; omega)
end Go.Proofs.YthjcgmjcpmodlaaDoor

namespace Go.Proofs.YthjcgmjcpmodlaaDoor
open Go.PF Go.RowKit Go.Ord Go.Sort Go.Proofs

/-! ### how many events -/
theorem flatMap_le {α β : Type} {f : α → List β} {k : Nat} : ∀ {l : List α}, (∀ x ∈ l, (f x).length ≤ k) → (l.flatMap f).length ≤ l.length * k
  | [], _ => by simp
  | x :: l, h => by
    rw [List.flatMap_cons, List.length_append, List.length_cons, Nat.succ_mul]
    have h1 := h x (by simp)
    have h2 := flatMap_le (l := l) fun y hy => h y (by simp [hy])
    omega
def allEv (l : List Sc) (r : List Rc) : List Ev :=
  (List.range (r.length + 1)).flatMap fun a => (List.range (r.length + 1)).flatMap fun b => (List.range (r.length + 1)).flatMap fun d => (List.range r.length).map fun i =>
    evOf l (r.getD i ⟨0, 0, 0, 0, ByteArray.empty, []⟩) (recI (([a, b, d].filter fun k => decide (k < r.length)) ++ [i]))
theorem allEv_len {l : List Sc} {r : List Rc} (h : r.length ≤ 400) : (allEv l r).length ≤ 26000000000 := by
  have h1 : (allEv l r).length ≤ (r.length + 1) * ((r.length + 1) * ((r.length + 1) * r.length)) := by
    unfold allEv
    refine Nat.le_trans (flatMap_le (k := (r.length + 1) * ((r.length + 1) * r.length)) fun a _ => ?_) (by simp)
    refine Nat.le_trans (flatMap_le (k := (r.length + 1) * r.length) fun b _ => ?_) (by simp)
    refine Nat.le_trans (flatMap_le (k := r.length) fun d _ => ?_) (by simp)
    simp
  have h2 : (r.length + 1) * ((r.length + 1) * ((r.length + 1) * r.length)) ≤ 401 * (401 * (401 * 400)) :=
    Nat.mul_le_mul (by omega) (Nat.mul_le_mul (by omega) (Nat.mul_le_mul (by omega) h))
  omega
theorem fol_all {l : List Sc} {r : List Rc} {lab : ByteArray} {e : Ev} (h : Fol l r lab e) : e ∈ allEv l r := by
  obtain ⟨c, a, i, x, hc, hx, hv, _, rfl⟩ := h.has
  have hlt : ∀ m ∈ c, m < r.length := fun m hm => by
    obtain ⟨y, hy, _⟩ := hc.lt m hm
    exact (List.getElem?_eq_some_iff.1 hy).1
  have hil := (List.getElem?_eq_some_iff.1 hx).1
  have hget : r.getD i ⟨0, 0, 0, 0, ByteArray.empty, []⟩ = x := by rw [List.getD_eq_getElem?_getD, hx]; rfl
  have key : ∃ p q s, p ≤ r.length ∧ q ≤ r.length ∧ s ≤ r.length ∧ ([p, q, s].filter fun k => decide (k < r.length)) = c := by
    have h3 := hc.len
    match c, hlt, h3 with
    | [], _, _ => exact ⟨r.length, r.length, r.length, Nat.le_refl _, Nat.le_refl _, Nat.le_refl _, by simp⟩
    | [p], hlt, _ => exact ⟨p, r.length, r.length, Nat.le_of_lt (hlt p (by simp)), Nat.le_refl _, Nat.le_refl _, by simp [hlt p]⟩
    | [p, q], hlt, _ => exact ⟨p, q, r.length, Nat.le_of_lt (hlt p (by simp)), Nat.le_of_lt (hlt q (by simp)), Nat.le_refl _, by simp [hlt p, hlt q]⟩
    | [p, q, s], hlt, _ => exact ⟨p, q, s, Nat.le_of_lt (hlt p (by simp)), Nat.le_of_lt (hlt q (by simp)), Nat.le_of_lt (hlt s (by simp)), by simp [hlt p, hlt q, hlt s]⟩
    | _ :: _ :: _ :: _ :: _, _, h3 => simp at h3
  obtain ⟨p, q, s, hp, hq, hs, he⟩ := key
  unfold allEv
  simp only [List.mem_flatMap, List.mem_map, List.mem_range]
  exact ⟨p, by omega, q, by omega, s, by omega, i, hil, by rw [he, hget]⟩

/-! ### rows of events that the call owns -/
def EvRow (base : Nat) (w : World) (v : Value) (qs : List (Ev × Value)) : Prop := OwnS w 31 4 v qs.length (qs.flatMap fun q => evV q.1 q.2) ∧ ∀ q ∈ qs, EvOK (FsK base w v) w q.2 q.1
theorem EvRow.below {base : Nat} {w w' : World} {v : Value} {qs : List (Ev × Value)} (h : EvRow base w v qs) (hb : Below w.heap.size w w') : EvRow base w' v qs :=
  ⟨h.1.below hb, fun q hq => let a := h.2 q hq; ⟨a.i1, a.i2, a.i3, (a.nd.below hb).wider fun k hk => ⟨hk.1, Nat.lt_of_lt_of_le hk.2.1 hb.size, hk.2.2⟩⟩⟩
theorem EvRow.nil (base : Nat) (w : World) : EvRow base w (.slice none 0 0) [] := ⟨OwnS.nil _ _ _, fun q hq => by cases hq⟩
theorem EvRow.sl {base : Nat} {w : World} {v : Value} {qs : List (Ev × Value)} (h : EvRow base w v qs) (hn : qs.length ≤ 9223372036854775807) : SE w v (qs.map (·.1)) := by
  have e : (qs.map fun q => (evV q.1 q.2, q.1)).flatMap (·.1) = qs.flatMap fun q => evV q.1 q.2 := by rw [List.flatMap_map]
  have := OwnS.toSLp (T := evT) (F := fun k => k < w.heap.size) (e := 31) (v := v) (n := qs.length) (qs.map fun q => (evV q.1 q.2, q.1)) (fun p hp => by
    obtain ⟨q, hq, rfl⟩ := List.mem_map.1 hp
    have a := h.2 q hq
    exact ⟨q.2, rfl, a.i1, a.i2, a.i3, a.nd.wider fun k hk => hk.2.1⟩) (by decide) (by rw [e]; exact h.1) (by simp) (fun g hg => h.1.lt hg) (by simpa using hn)
  have e2 : (qs.map fun q => (evV q.1 q.2, q.1)).map (·.2) = qs.map (·.1) := by rw [List.map_map]; rfl
  rw [e2] at this
  exact this

set_option maxRecDepth 20000 in
theorem sortedFunc_c {w : World} {base gm fb g : Nat} {S : Ev → Prop} {Z : List Ev} {c0 c1 : List Value} (hc0 : c0 = [.pointer (some ⟨g, 0, none⟩)]) (hc1 : c1 = [.pointer (some ⟨gm, 0, none⟩)]) (hgm : Blk w gm 58 [.map (some fb)]) (hF : FoundIs base w fb S) (hSn : ∀ e, S e → e.needs.length ≤ 1000) (hZ : Z.length ≤ 26000000000) (hSZ : ∀ e, S e → e ∈ Z)
    (hB : Blk w g 67 [.func (.func 33) #[] #[]]) :
    Gives Tryd.prog 42 #[.func (.func 45) #[] c1.toArray, .func (.func 43) #[] c0.toArray] w fun v w' => Below w.heap.size w w' ∧ (∀ k, v.ownBlock = some k → w.heap.size ≤ k) ∧ ∃ qs, EvRow base w' v qs ∧ SrtE (qs.map (·.1)) ∧ ∀ e, e ∈ qs.map (·.1) ↔ S e := by
  obtain ⟨m, hm, hme, hmS⟩ := hF
  have hlike : ∀ p ∈ m, evLike p.2 := fun p hp => by
    obtain ⟨e, nv, rfl, hok, _⟩ := hme p hp
    obtain ⟨A, c, hv, _⟩ := hok.nd.form
    exact ⟨e, A, _, c, by rw [hv]⟩
  have hcnt : ∀ xs : List KV, (xs.map (·.1)).Nodup → (∀ y ∈ xs, y ∈ m) → xs.length ≤ 26000000000 := fun xs hn hs => by
    have := nodup_len (l := xs.map (·.1)) (k := Z.map textE) hn fun y hy => by
      obtain ⟨p, hp, rfl⟩ := List.mem_map.1 hy
      obtain ⟨e, nv, rfl, _, hS⟩ := hme p (hs p hp)
      exact List.mem_map.2 ⟨e, hSZ e hS, rfl⟩
    simp at this
    omega
  refine gives_of (vs := [.func (.func 45) #[] c1.toArray, .func (.func 43) #[] c0.toArray]) [(0, none, _), (1, none, _)] Tryd.func42 rfl Tryd.ntmps42 rfl rfl ?_
  refine CW.seq (CW.region ?_)
  refine TW.assign rfl rfl rfl ct ?_
  refine TW.nil (KW.pick [0, 1, 4] [(0, _, _), (1, _, _), (4, _, _)] rfl (KW.then_ ?_))
  refine CW.seq (CW.region ?_)
  refine TW.move rfl rfl rfl ct ?_
  have hit : IterOK Tryd.prog 45 c1 (fun x : KV => [x.2]) (kvPos m) (kvAll m) (fun k => k = gm ∨ k = fb) w := hc1 ▸ values_iter hgm hm hlike
  refine TW.call0 (cap := []) rfl rfl en65 rfl (Args.cons rfl ct Args.nil) (collect_c hit en45 (fun k hk => by rcases hk with rfl | rfl; exact hgm.lt; exact hm.lt) (fun pre x hp => ⟨by have := hcnt _ hp.1 hp.2; simp at this; omega, hlike _ (hp.2 x (by simp))⟩)) ?_
  rintro y1 w1 ⟨hb1, xs, ⟨hnd, hall⟩, hO1, hfr1⟩
  have hxl := hcnt xs hnd fun y hy => (hall y).1 hy
  have hB1 := hB.next hb1
  have hgy : y1.ownBlock ≠ some g := fun e => by have := hfr1 _ e; have := hB.lt; omega
  have hys : ∀ zs : List KV, (∀ p ∈ zs, p ∈ m) → ∃ ys : List (EvA base w1 y1), ys.length = zs.length ∧ ys.flatMap encA = evCells zs ∧ ys.map (fun y => textE y.1.1) = zs.map (·.1) ∧ ∀ y ∈ ys, S y.1.1 := by
    intro zs
    induction zs with
    | nil => exact fun _ => ⟨[], rfl, rfl, rfl, fun y hy => by cases hy⟩
    | cons p zs ih =>
      intro h
      obtain ⟨ys, h1, h2, h3, h4⟩ := ih fun q hq => h q (by simp [hq])
      obtain ⟨e, nv, rfl, hok, hS⟩ := hme p (h p (by simp))
      have hok1 : EvOK (FsK base w1 y1) w1 nv e := ⟨hok.i1, hok.i2, hok.i3, (hok.nd.below hb1).wider fun k hk => ⟨hk.1, Nat.lt_of_lt_of_le hk.2 hb1.size, fun e2 => by have := hfr1 _ e2; omega⟩⟩
      refine ⟨⟨(e, nv), hok1, by have := hSn e hS; show e.needs.length ≤ _; omega⟩ :: ys, by simp [h1], ?_, by simp [h3], fun y hy => ?_⟩
      · rw [List.flatMap_cons, h2]
        simp [evCells, encA, Value.cells]
      · rcases List.mem_cons.1 hy with rfl | hy
        · exact hS
        · exact h4 y hy
  obtain ⟨ys, hyl, hyc, hyt, hyS⟩ := hys xs fun p hp => (hall p).1 hp
  refine TW.assign rfl rfl rfl ct ?_
  refine TW.nil (KW.pick [0, 1, 4, 5] [(0, _, _), (1, _, _), (4, _, _), (5, _, _)] rfl (KW.then_ ?_))
  refine CW.seq (CW.region ?_)
  refine TW.move rfl rfl rfl ct ?_
  refine TW.move rfl rfl rfl ct ?_
  refine TW.call0 (cap := []) rfl rfl en66 rfl (Args.cons rfl ct (Args.cons rfl ct Args.nil)) (sortE_c (ys := ys) hc0 (by rw [hyl, hyc]; exact hO1) (by omega) hB1 hgy) ?_
  rintro y2 w2 ⟨hg2, zs, hperm, hsrt, hO2⟩
  refine TW.nil (KW.pick [0, 1, 4, 5] [(0, _, _), (1, _, _), (4, _, _), (5, _, _)] rfl (KW.then_ ?_))
  refine CW.seq (CW.region ?_)
  refine TW.move rfl rfl rfl ct ?_
  refine TW.assign rfl rfl rfl ct ?_
  refine TW.nil (KW.pick [0, 1, 4, 5] [(0, _, _), (1, _, _), (4, _, _), (5, _, _)] rfl (KW.then_ ?_))
  refine CW.ret ?_
  have hFk : Kept (FsK base w1 y1) w1 w2 := Kept.of_blocks fun k hk hlt => hg2.block k hlt (fun e => hk.2.2 e.symm)
  refine ret1 Tryd.results42 rfl (⟨hb1.grown hg2 hb1.size hfr1, hfr1, zs.map (·.1), ⟨?_, fun q hq => ?_⟩, ?_, fun e => ?_⟩)
  · rw [List.flatMap_map, List.length_map]
    exact hO2
  · obtain ⟨y, hy, rfl⟩ := List.mem_map.1 hq
    have a := y.2.1
    exact ⟨a.i1, a.i2, a.i3, (a.nd.mono hFk).wider fun k hk => ⟨hk.1, Nat.lt_of_lt_of_le hk.2.1 hg2.size, hk.2.2⟩⟩
  · have hnd2 : (zs.map fun y => textE y.1.1).Nodup := by
      have h1 : (ys.map fun y => textE y.1.1).Nodup := by rw [hyt]; exact hnd
      exact (hperm.map _).nodup_iff.2 h1
    rw [List.map_map]
    unfold SrtE
    rw [List.pairwise_map]
    rw [List.nodup_iff_pairwise_ne, List.pairwise_map] at hnd2
    refine (hsrt.and hnd2).imp fun {a b} h => ?_
    obtain ⟨h1, h2⟩ := h
    show cmpE a.1.1 b.1.1 < 0
    have h3 := cmpE_anti a.1.1 b.1.1
    have h4 : cmpE a.1.1 b.1.1 ≠ 0 := fun e => h2 (by rw [cmpE_zero.1 e])
    omega
  · rw [List.map_map, List.mem_map]
    constructor
    · rintro ⟨y, hy, rfl⟩
      exact hyS y (hperm.mem_iff.1 hy)
    · intro hS
      obtain ⟨v, hv⟩ := hmS e hS
      have h1 : textE e ∈ ys.map fun y => textE y.1.1 := by
        rw [hyt]
        exact List.mem_map.2 ⟨_, (hall _).2 hv, rfl⟩
      obtain ⟨y, hy, he⟩ := List.mem_map.1 h1
      exact ⟨y, hperm.mem_iff.2 hy, textE_inj he⟩

set_option maxRecDepth 20000 in
theorem sortedE_c {w : World} {base gm fb : Nat} {S : Ev → Prop} {Z : List Ev} {c1 : List Value} (hc1 : c1 = [.pointer (some ⟨gm, 0, none⟩)]) (hgm : Blk w gm 58 [.map (some fb)]) (hF : FoundIs base w fb S) (hSn : ∀ e, S e → e.needs.length ≤ 1000) (hZ : Z.length ≤ 26000000000) (hSZ : ∀ e, S e → e ∈ Z) :
    Gives Tryd.prog 31 #[.func (.func 45) #[] c1.toArray, .func (.func 33) #[] #[]] w fun v w' => Below w.heap.size w w' ∧ (∀ k, v.ownBlock = some k → w.heap.size ≤ k) ∧ ∃ qs, EvRow base w' v qs ∧ SrtE (qs.map (·.1)) ∧ ∀ e, e ∈ qs.map (·.1) ↔ S e := by
  refine gives_of (vs := [.func (.func 45) #[] c1.toArray, .func (.func 33) #[] #[]]) [(0, none, _), (1, none, _)] Tryd.func31 rfl Tryd.ntmps31 rfl rfl ?_
  refine CW.seq (CW.region ?_)
  refine TW.box rfl rfl rfl rfl ?_
  rintro g1 w1 f1
  refine TW.assign rfl rfl rfl ct ?_
  refine TW.nil (KW.pick [0, 1, 3, 4] [(0, _, _), (1, _, _), (3, _, _), (4, _, _)] rfl (KW.then_ ?_))
  refine CW.seq (CW.region ?_)
  refine TW.move rfl rfl rfl ct ?_
  refine TW.makeFunc rfl rfl (Args.cons rfl ct Args.nil) ?_
  refine TW.call0 (cap := []) rfl rfl en42 rfl (Args.cons rfl ct (Args.cons rfl ct Args.nil)) (sortedFunc_c rfl hc1 (hgm.next f1.below) (hF.below f1.below) hSn hZ hSZ f1.blk) ?_
  rintro y2 w2 ⟨hb2, hfr2, hqs⟩
  refine TW.assign rfl rfl rfl ct ?_
  refine TW.nil (KW.pick [0, 1, 3, 4] [(0, _, _), (1, _, _), (3, _, _), (4, _, _)] rfl (KW.then_ ?_))
  refine CW.ret ?_
  refine ret1 Tryd.results31 rfl (⟨f1.below.step hb2, fun k hk => Nat.le_trans f1.below.size (hfr2 k hk), hqs⟩)
end Go.Proofs.YthjcgmjcpmodlaaDoor
