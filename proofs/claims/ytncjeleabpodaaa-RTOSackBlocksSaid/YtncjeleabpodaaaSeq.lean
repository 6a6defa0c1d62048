/- Sequence numbers: Add and Diff. -/
import Derived.Test.YtncjeleabpodaaaRtoEx
import Derived.Outline
namespace Go.Proofs.Ytncjeleabpodaaa
open Go.RowKit
/-- (a + n) mod 2^32. -/
def addV (a n : Int) : Int := (a + n) % 4294967296
/-- The signed distance from b to a. -/
def diffV (a b : Int) : Int := (a - b + 2147483648) % 4294967296 - 2147483648
set_option maxHeartbeats 400000 in
theorem plus_any (x y : Int) (w : World) : Calls Try.prog 43 #[.int .u32 x, .int .u32 y] w fun e w' => e = .returned (.int .u32 (IntKind.u32.wrap (x + y))) ∧ w = w' := by
  go_enter Try.func43, Try.ntmps43
  go_wp2
  go_ret
  exact ⟨rfl, rfl⟩
set_option maxHeartbeats 400000 in
theorem minus_any (x y : Int) (w : World) : Calls Try.prog 80 #[.int .u32 x, .int .u32 y] w fun e w' => e = .returned (.int .u32 (IntKind.u32.wrap (x - y))) ∧ w = w' := by
  go_enter Try.func80, Try.ntmps80
  go_wp2
  go_ret
  exact ⟨rfl, rfl⟩
theorem wrap_u32V (x : Int) : IntKind.u32.wrap x = x % 4294967296 := by rw [IntKind.wrap_u32]
set_option maxHeartbeats 400000 in
theorem seqadd_any (a n : Int) (w : World) : Calls Try.prog 12 #[.int .i64 a, .int .i64 n] w fun e w' => e = .returned (.int .i64 (addV a n)) ∧ w = w' := by
  go_enter Try.func12, Try.ntmps12
  go_wp2_with fail
  refine (plus_any _ _ _).mono ?_
  rintro e w1 ⟨rfl, rfl⟩
  rw [wrap_u32V]
  go_wp2_with fail
  go_ret
  refine ⟨ret_i ?_, rfl⟩
  unfold addV
  omega
set_option maxHeartbeats 400000 in
theorem apart_any (a b : Int) (w : World) : Calls Try.prog 44 #[.int .i64 a, .int .i64 b] w fun e w' => e = .returned (.int .u32 ((a - b) % 4294967296)) ∧ w = w' := by
  go_enter Try.func44, Try.ntmps44
  go_wp2_with fail
  refine (minus_any _ _ _).mono ?_
  rintro e w1 ⟨rfl, rfl⟩
  rw [wrap_u32V]
  go_wp2_with fail
  go_ret
  exact ⟨rfl, rfl⟩
set_option maxHeartbeats 400000 in
theorem diff_any (a b : Int) (w : World) : Calls Try.prog 16 #[.int .i64 a, .int .i64 b] w fun e w' => e = .returned (.int .i64 (diffV a b)) ∧ w = w' := by
  go_enter Try.func16, Try.ntmps16
  go_wp2_with fail
  refine (apart_any _ _ _).mono ?_
  rintro e w1 ⟨rfl, rfl⟩
  go_wp2_with fail
  go_ret
  refine ⟨ret_i ?_, rfl⟩
  unfold diffV wrap64 wrap32
  omega
/-- The distance of a number that lies n ahead. -/
theorem diff_add (p n : Int) (h1 : 0 ≤ n) (h2 : n < 2147483648) : diffV (addV p n) p = n := by unfold diffV addV; omega
end Go.Proofs.Ytncjeleabpodaaa
