/- What the listed variable of link holds; a frame that came in. -/
import Derived.Test.YtldmkoicjpkdiaaDoorLkSane
import Derived.Stop.LaidErr
import Derived.LaidLaws
import Derived.Lib.SmallJoins
import Derived.Test.YtldmkoicjpkdiaaDoorRows
namespace Go.Proofs.YtldmkoicjpkdiaaDoor
open Go.ChangeShapes Go.WideShapes Go.ChangeAt Go.RowKit
theorem gErr : Tryd.prog.globalNamed "stagepost/link.errBroken" = some 0 := by kernel_rfl
theorem gErrT : (Tryd.prog.globals[0]?).map (·.type) = some 44 := by kernel_rfl
theorem starE : "*" ++ "errors.errorString" = "*errors.errorString" := by decide
theorem rowE (u : TypeId) (h : Tryd.prog.typeName? 3 u = some "*errors.errorString") : u = 91 :=
  typeName_ptr_named (nm := "errors.errorString") (by rw [starE]; kernel_rfl) (by kernel_rfl) (by decide) u (by rw [starE]; exact h)
theorem laidFacts {W : World} (h : laidMetH Tryd.prog [("stagepost/link.errBroken", Rows.laid_stagepost_link_errBroken)] W) : ∃ a, ErrS a W := by
  have h' : laidMet Tryd.prog [("stagepost/link.errBroken", Rows.laid_stagepost_link_errBroken)] W := h
  obtain ⟨a, s, hv, _, _, _⟩ := laid_sentinel h' gErr gErrT Tryd.underlying44 rowE Tryd.underlying91 Tryd.underlying113 rfl rfl Tryd.underlying9 (by kernel_rfl) (by kernel_rfl)
  have hc : W.cell? ⟨0, 0, none⟩ = some (.iface 91 (.pointer (some a))) := by simpa using World.var?_cell gErr hv 0
  exact ⟨a, hc, block_lt_of_cell hc⟩
noncomputable def low : Nat := (World.holding Tryd.prog default ⟨#[], #[], []⟩).heap.size
/-- A world for the witness: the settled one, with the variable as its initialiser lays it. -/
noncomputable def laidWorld (os : Os) : World :=
  let w0 := World.holding Tryd.prog os ⟨#[.cells #[.string ⟨#[98, 114, 111, 107, 101, 110, 32, 102, 105, 101, 108, 100]⟩] 113], #[], []⟩
  { w0 with heap := w0.heap.modify 0 fun
      | .cells _ t frozen => .cells #[.iface 91 (.pointer (some ⟨low, 0, none⟩))] t frozen
      | o => o }
set_option maxRecDepth 100000 in
/-- A frame that came in. -/
theorem open_frame {H : Type} {enc : TypeId × Value → H} {W : World} {base : Nat} {spare : Nat → Bool} {held : Bool} {r : Reach} {b0 : Nat} {v : Value} {d : DataW H} {p : List MemPlace}
    (hv : Value.okWide Tryd.prog W r b0 23 v) (h : DataW.Trod enc Tryd.prog W base spare held 23 v d p) :
    ∃ (t f k : Int) (s : ByteArray), v = .agg #[.int .i64 t, .int .i64 f, .int .i64 k, .string s] ∧ (Lit.int .i64 t).wf = true ∧ (Lit.int .i64 f).wf = true ∧ (Lit.int .i64 k).wf = true ∧ s.size ≤ maxLen := by
  have hC : Tryd.prog.cellsOf 23 = 4 := by kernel_rfl
  have hu := Tryd.underlying23
  have k4 := Joins.open_agg4 (P := Tryd.prog) hu (by kernel_rfl) hC hv h
  obtain ⟨v0, v1, v2, v3, y0, y1, y2, y3, n, rfl, _, _, h0, h1, h2, h3⟩ := k4
  obtain ⟨t, ht, _, wt⟩ := DataW.trod_int Tryd.underlying3 h0
  obtain ⟨f, hf, _, wf⟩ := DataW.trod_int Tryd.underlying3 h1
  obtain ⟨k, hk, _, wk⟩ := DataW.trod_int Tryd.underlying3 h2
  obtain ⟨s, hs, _, ws⟩ := DataW.trod_string Tryd.underlying9 h3
  simp only [List.cons.injEq, and_true] at ht hf hk hs
  subst ht hf hk hs
  exact ⟨t, f, k, s, rfl, wt, wf, wk, ws⟩
end Go.Proofs.YtldmkoicjpkdiaaDoor
