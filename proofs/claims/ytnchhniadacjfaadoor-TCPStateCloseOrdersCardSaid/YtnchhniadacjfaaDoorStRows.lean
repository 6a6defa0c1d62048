/- Slices of integers that came in, as a walk reads them. -/
import Derived.Test.YtnchhniadacjfaaDoorStLaid
import Derived.WalkKit
namespace Go.Proofs.YtnchhniadacjfaaDoor
open Go.ChangeShapes Go.WideShapes Go.ChangeAt Go.RowKit
theorem IsRow.at {k : IntKind} {w : World} {a : Option Addr} {len cap : Nat} {zs : List Int} (h : IsRow k w a len cap zs) (hp : 0 < len) :
    ∃ b off, a = some ⟨b, off, none⟩ ∧ len ≤ maxLen ∧ b < w.heap.size ∧ ∀ i, i < len → w.cell? ⟨b, off + i, none⟩ = some (.int k (zs.getD i 0)) ∧ (Lit.int k (zs.getD i 0)).wf = true := by
  rcases h with ⟨_, h, _⟩ | ⟨x, rfl, h1, h2, h3, h4, h5⟩
  · omega
  · obtain ⟨b, off, rfl, hc⟩ := ints_at h4 (by omega)
    have hin : ∀ i, i < len → i < zs.length := fun i hi => by omega
    refine ⟨b, off, rfl, by omega, ?_, fun i hi => ⟨hc i (hin i hi), h5 _ ?_⟩⟩
    · exact block_lt_of_cell (hc 0 (by omega))
    · rw [List.getD_eq_getElem?_getD, List.getElem?_eq_getElem (hin i hi)]; simp
theorem wf64 {n : Int} (h : (Lit.int .i64 n).wf = true) : -9223372036854775808 ≤ n ∧ n ≤ 9223372036854775807 := bounds_i64 h
end Go.Proofs.YtnchhniadacjfaaDoor
