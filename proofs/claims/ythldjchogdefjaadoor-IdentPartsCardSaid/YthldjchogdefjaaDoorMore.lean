/- More rules: nil slices, results in memory, thunks. -/
import Derived.Test.YthldjchogdefjaaDoorOwn
import Derived.Lib.SliceRun
namespace Go.PF
open Go.RowKit

section
variable {P : Program} {r : Option Nat} {Q : Exit → Act → World → Prop} {N : Nat} {ds : List Deferred} {ops rest : List Oper} {E : Env} {D : DE} {w : World} {G : Option Bool} {Fin : DE → Prop}
variable {d : Option Tmp} {ty : TypeId} {pos : String} {af : Array Edge} {gu : Option (Nat × Bool)}
variable {x y z : Operand} {cx cy cz : Option Bool} {ρ : Operand → Value}

theorem X.eqlNil {t t' e : TypeId} {A : Option Addr} {n c : Nat} (ht : P.underlying t = some (.slice e)) (hx : ρ x = .slice A n c) (hy : ρ (.const (.slice none 0 0)) = .slice none 0 0) : (execOp ρ ⟨d, .binOp .eql t x (.const (.slice none 0 0)) t', ty, pos, af, gu⟩).run P w = .ok (.value (.bool A.isNone)) w := by
  simp only [execOp]; rw [hx, hy, eqGuard_at_slice]
  simp [Lib.run_eql_slice_nil w t e A n c 0 0 ht]
theorem TW.eqlNil {t t' e : TypeId} {A : Option Addr} {n c : Nat} (hg : gd ops E gu = some G) (hd : okDst N d = true) (ht : P.underlying t = some (.slice e)) (hx : ev E x = some (cx, .slice A n c)) (ix : Cnd G → Cnd cx)
    (next : TW P r Q N ds ops rest (ins E d G (.bool A.isNone)) w) : TW P r Q N ds ops (⟨d, .binOp .eql t x (.const (.slice none 0 0)) t', ty, pos, af, gu⟩ :: rest) E w :=
  TW.val hg hd rfl (fun hG a ha => by have := ha.eval hx (ix hG); exact X.eqlNil ht this rfl) next

/-- a struct stored into a block of its own -/
theorem TW.storeBlkF {t t1 : TypeId} {g n : Nat} {old cs : List Value} (hg : gu = none) (hx : ev E x = some (none, .pointer (some ⟨g, 0, none⟩))) (hy : ev E y = some (none, .agg cs.toArray)) (hb : Blk w g t1 old) (hs : (P.info? t).map (·.size) = some n) (hn : cs.length = n) (hl : old.length = n)
    (h1 : cs.all (·.oneCell') = true) (next : ∀ w', Blk w' g t1 cs → w.grownBy w' (some g) → w'.heap.size = w.heap.size → TW P r Q N ds ops rest E w') : TW P r Q N ds ops (⟨none, .store t x y, ty, pos, af, gu⟩ :: rest) E w := by
  subst hn
  refine TW.storeBlk hg hx hy hb hs hl h1 (next _ ?_ ⟨rfl, rfl, rfl, by simp, fun k hk hne => ?_⟩ (by simp))
  · exact setRow_heap w g old.toArray cs.toArray t1 (0, 0) hb
  · have : g ≠ k := fun e => hne (by rw [e])
    simp [World.setRow, Array.getElem?_modify, this]

variable {fn : Func} {R : Value → World → Prop}
theorem retCS {s : Nat} {t t1 : TypeId} {fs : Array Field} {g : Nat} {cs : List Value} (hres : fn.results = #[.cell s t]) (hu : P.underlying t = some (.struct fs)) (hs : (P.info? t).map (·.size) = some cs.length) (hl : look E s = some (none, .pointer (some ⟨g, 0, none⟩))) (hB : Blk w g t1 cs) (hR : R (.agg cs.toArray) w) :
    KW N [] (bodyPost P fn (fun e w' => ∃ v, e = .returned v ∧ R v w') .ret) E w := fun a ha => by
  refine bodyPost_ret (v := .agg cs.toArray) ?_ ha.defers ⟨_, rfl, hR⟩
  have e : a.tmps.getD s undef = .pointer (some ⟨g, 0, none⟩) := (ha.slots s none _ hl).1 trivial
  simp only [Array.getD_eq_getD_getElem?] at e
  simp [results, hres, e, asAddr, run_loadVarS hu hs (fun j v hj => hB.fld hj)]
end

/-- A function value without parameters that says b, in whatever world that extends w. -/
def Thunk (P : Program) (w : World) (f : FuncId) (caps : List Value) (b : Bool) : Prop := ∀ w', Below w.heap.size w w' → Gives P f caps.toArray w' fun u w'' => Below w'.heap.size w' w'' ∧ u = .bool b

theorem Thunk.later {P : Program} {w w1 : World} {f : FuncId} {caps : List Value} {b : Bool} (h : Thunk P w f caps b) (hb : Below w.heap.size w w1) : Thunk P w1 f caps b := fun w' hw => h w' (hb.step hw)
end Go.PF
