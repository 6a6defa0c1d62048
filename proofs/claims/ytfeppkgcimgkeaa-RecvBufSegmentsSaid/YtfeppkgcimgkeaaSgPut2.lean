/- segment.put at two and at three numbers. -/
import Derived.Test.YtfeppkgcimgkeaaSgFl
namespace Go.Proofs.Ytfeppkgcimgkeaa
open Go.RowKit
def FitsB (b : Nat) (x : Int) : Prop := 0 ≤ x ∧ x.toNat < 256 ^ b ∧ x ≤ 4294967295
theorem fits1 {x : Int} (h1 : 0 ≤ x) (h2 : x ≤ 255) : FitsB 1 x := ⟨h1, by show x.toNat < 256; omega, by omega⟩
theorem fits2 {x : Int} (h1 : 0 ≤ x) (h2 : x ≤ 65535) : FitsB 2 x := ⟨h1, by show x.toNat < 65536; omega, by omega⟩
theorem fits4 {x : Int} (h1 : 0 ≤ x) (h2 : x ≤ 4294967295) : FitsB 4 x := ⟨h1, by show x.toNat < 4294967296; omega, h2⟩
theorem segput2 (b : Nat) (hb1 : 1 ≤ b) (hb4 : b ≤ 4) (x y : Int) (hx : FitsB b x) (hy : FitsB b y) (W : World) (t : TypeId) (C : Nat) (hC : C = W.heap.size) :
    Calls Try.prog 56 #[.int .i64 b, .slice (some ⟨C, 0, none⟩) 2 2] (W.alloc (.cells #[.int .i64 x, .int .i64 y] t)) fun e w' => e = .returned (.string ⟨(be b x.toNat ++ be b y.toNat).toArray⟩) ∧ Below W.heap.size W w' := by
  subst hC
  obtain ⟨x1, x2, x3⟩ := hx
  obtain ⟨y1, y2, y3⟩ := hy
  have h := segput_any b W.heap.size [x.toNat, y.toNat] 2 (W.alloc (.cells #[.int .i64 x, .int .i64 y] t)) hb1 hb4 (by show 2 ≤ 8; omega) (by
    intro n hn
    rcases List.mem_cons.1 hn with rfl | hn
    · exact ⟨x2, by omega⟩
    · rcases List.mem_cons.1 hn with rfl | hn
      · exact ⟨y2, by omega⟩
      · cases hn) ⟨by simp, fun i hi => by
    rw [cell_of_row _ _ _ _ _ _ (heap_alloc_new _ _)]
    have hi2 : i < 2 := hi
    rcases (show i = 0 ∨ i = 1 by omega) with rfl | rfl
    · show some (Value.int .i64 x) = some (Value.int .i64 ((x.toNat : Nat) : Int)); rw [Int.toNat_of_nonneg x1]
    · show some (Value.int .i64 y) = some (Value.int .i64 ((y.toNat : Nat) : Int)); rw [Int.toNat_of_nonneg y1]⟩
  refine Calls.mono (show Calls Try.prog 56 #[.int .i64 b, .slice (some ⟨W.heap.size, 0, none⟩) 2 2] _ _ from h) ?_
  rintro e w' ⟨he, hb⟩
  refine ⟨by rw [he]; show _ = Ending.returned (.string ⟨(be b x.toNat ++ be b y.toNat).toArray⟩); unfold putL putL putL; rw [List.append_nil], (sgBel W _).trans (hb.mono (by simp))⟩
theorem segput3 (b : Nat) (hb1 : 1 ≤ b) (hb4 : b ≤ 4) (x y z : Int) (hx : FitsB b x) (hy : FitsB b y) (hz : FitsB b z) (W : World) (t : TypeId) (C : Nat) (hC : C = W.heap.size) :
    Calls Try.prog 56 #[.int .i64 b, .slice (some ⟨C, 0, none⟩) 3 3] (W.alloc (.cells #[.int .i64 x, .int .i64 y, .int .i64 z] t)) fun e w' => e = .returned (.string ⟨(be b x.toNat ++ (be b y.toNat ++ be b z.toNat)).toArray⟩) ∧ Below W.heap.size W w' := by
  subst hC
  obtain ⟨x1, x2, x3⟩ := hx
  obtain ⟨y1, y2, y3⟩ := hy
  obtain ⟨z1, z2, z3⟩ := hz
  have h := segput_any b W.heap.size [x.toNat, y.toNat, z.toNat] 3 (W.alloc (.cells #[.int .i64 x, .int .i64 y, .int .i64 z] t)) hb1 hb4 (by show 3 ≤ 8; omega) (by
    intro n hn
    rcases List.mem_cons.1 hn with rfl | hn
    · exact ⟨x2, by omega⟩
    · rcases List.mem_cons.1 hn with rfl | hn
      · exact ⟨y2, by omega⟩
      · rcases List.mem_cons.1 hn with rfl | hn
        · exact ⟨z2, by omega⟩
        · cases hn) ⟨by simp, fun i hi => by
    rw [cell_of_row _ _ _ _ _ _ (heap_alloc_new _ _)]
    have hi2 : i < 3 := hi
    rcases (show i = 0 ∨ i = 1 ∨ i = 2 by omega) with rfl | rfl | rfl
    · show some (Value.int .i64 x) = some (Value.int .i64 ((x.toNat : Nat) : Int)); rw [Int.toNat_of_nonneg x1]
    · show some (Value.int .i64 y) = some (Value.int .i64 ((y.toNat : Nat) : Int)); rw [Int.toNat_of_nonneg y1]
    · show some (Value.int .i64 z) = some (Value.int .i64 ((z.toNat : Nat) : Int)); rw [Int.toNat_of_nonneg z1]⟩
  refine Calls.mono (show Calls Try.prog 56 #[.int .i64 b, .slice (some ⟨W.heap.size, 0, none⟩) 3 3] _ _ from h) ?_
  rintro e w' ⟨he, hb⟩
  refine ⟨by rw [he]; unfold putL putL putL putL; rw [List.append_nil], (sgBel W _).trans (hb.mono (by simp))⟩
end Go.Proofs.Ytfeppkgcimgkeaa
