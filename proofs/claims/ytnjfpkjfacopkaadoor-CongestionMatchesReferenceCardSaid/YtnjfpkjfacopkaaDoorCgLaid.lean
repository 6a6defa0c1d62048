/- What the listed variable of congestion holds. -/
import Derived.Test.YtnjfpkjfacopkaaDoorCgMem
import Derived.Stop.LaidErr
import Derived.LaidLaws
namespace Go.Proofs.YtnjfpkjfacopkaaDoor
open Go.ChangeShapes Go.WideShapes Go.ChangeAt Go.RowKit
theorem gErr : Tryd.prog.globalNamed "stagepost/congestion.errSize" = some 0 := by kernel_rfl
theorem gErrT : (Tryd.prog.globals[0]?).map (·.type) = some 47 := by kernel_rfl
theorem starE : "*" ++ "errors.errorString" = "*errors.errorString" := by decide
theorem rowE (u : TypeId) (h : Tryd.prog.typeName? 3 u = some "*errors.errorString") : u = 76 :=
  typeName_ptr_named (nm := "errors.errorString") (by rw [starE]; kernel_rfl) (by kernel_rfl) (by decide) u (by rw [starE]; exact h)
theorem laidFacts {W : World} (h : laidMetH Tryd.prog [("stagepost/congestion.errSize", Rows.laid_stagepost_congestion_errSize)] W) : ∃ a, ErrS a W := by
  have h' : laidMet Tryd.prog [("stagepost/congestion.errSize", Rows.laid_stagepost_congestion_errSize)] W := h
  obtain ⟨a, s, hv, _, _, _⟩ := laid_sentinel h' gErr gErrT Tryd.underlying47 rowE Tryd.underlying76 Tryd.underlying101 rfl rfl Tryd.underlying9 (by kernel_rfl) (by kernel_rfl)
  have hc : W.cell? ⟨0, 0, none⟩ = some (.iface 76 (.pointer (some a))) := by simpa using World.var?_cell gErr hv 0
  exact ⟨a, hc, block_lt_of_cell hc⟩
noncomputable def low : Nat := (World.holding Tryd.prog default ⟨#[], #[], []⟩).heap.size
/-- A world for the witness: the settled one, with the variable as its initialiser lays it. -/
noncomputable def laidWorld (os : Os) : World :=
  let w0 := World.holding Tryd.prog os ⟨#[.cells #[.string ⟨#[115, 101, 103, 109, 101, 110, 116, 32, 115, 105, 122, 101, 32, 111, 117, 116, 32, 111, 102, 32, 114, 97, 110, 103, 101]⟩] 101], #[], []⟩
  { w0 with heap := w0.heap.modify 0 fun
      | .cells _ t frozen => .cells #[.iface 76 (.pointer (some ⟨low, 0, none⟩))] t frozen
      | o => o }
end Go.Proofs.YtnjfpkjfacopkaaDoor
