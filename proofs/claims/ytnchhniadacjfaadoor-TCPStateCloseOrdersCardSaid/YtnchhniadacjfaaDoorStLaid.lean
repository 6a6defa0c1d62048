/- What the listed variables of tcpstate hold. -/
import Derived.Test.YtnchhniadacjfaaDoorLaidFlat
import Derived.Test.YtnchhniadacjfaaDoorStSmall
import Derived.LaidSub
import Derived.Stop.LaidErr
namespace Go.Proofs.YtnchhniadacjfaaDoor
open Go.ChangeShapes Go.WideShapes Go.ChangeAt Go.RowKit
/-- A slice of integers that came in: nil, or a row of numbers. -/
def IsRow (k : IntKind) (w : World) (a : Option Addr) (len cap : Nat) (zs : List Int) : Prop :=
  (a = none ∧ len = 0 ∧ cap = 0 ∧ zs = []) ∨
  ∃ x, a = some x ∧ len ≤ cap ∧ cap ≤ maxLen ∧ zs.length = cap ∧ (∀ i, i < zs.length → w.cell? (x.add i) = some (.int k (zs.getD i 0))) ∧ ∀ n ∈ zs, (Lit.int k n).wf = true
theorem laidFacts {W : World} (h : laidMetH Tryd.prog [("stagepost/tcpstate.triples", Rows.laid_stagepost_tcpstate_triples), ("stagepost/tcpstate.names", Rows.laid_stagepost_tcpstate_names)] W) : Triples W ∧ Names W := by
  have h' : laidMet Tryd.prog [("stagepost/tcpstate.triples", Rows.laid_stagepost_tcpstate_triples), ("stagepost/tcpstate.names", Rows.laid_stagepost_tcpstate_names)] W := h
  refine ⟨?_, ?_⟩
  · obtain ⟨t, fr, hh⟩ := laid_head (g := 1) (m := 3) (t := 42) (by kernel_rfl) (by kernel_rfl) (by kernel_rfl) h'
    exact ⟨t, fr, hh.trans (by kernel_rfl)⟩
  · obtain ⟨t, fr, hh⟩ := laid_head (g := 0) (m := 3) (t := 39) (by kernel_rfl) (by kernel_rfl) (by kernel_rfl) h'.tail
    exact ⟨t, fr, hh.trans (by kernel_rfl)⟩
def withCells (cs : Array Value) : Obj → Obj
  | .cells _ t frozen => .cells cs t frozen
  | o => o
/-- A world for the witness: the settled one, with the variables as their initialisers lay them. -/
noncomputable def laidWorld (os : Os) : World :=
  { World.holding Tryd.prog os ⟨#[], #[], []⟩ with heap := ((World.holding Tryd.prog os ⟨#[], #[], []⟩).heap.modify 1 (withCells tripCells)).modify 0 (withCells nameCells) }
end Go.Proofs.YtnchhniadacjfaaDoor
