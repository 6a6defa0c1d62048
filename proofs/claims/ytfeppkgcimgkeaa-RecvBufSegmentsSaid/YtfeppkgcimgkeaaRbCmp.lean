/- recvbuf: the closures of Blocks. -/
import Derived.Test.YtfeppkgcimgkeaaRbTake
import Derived.Sort.Grow
namespace Go.Proofs.Ytfeppkgcimgkeaa
open Go.RowKit Go.Shelf
def isNew (nw : Int) (x : Sp) : Bool := decide (x.1 ≤ nw ∧ nw < x.2)
def cmpI (a b : Int) : Int := if a < b then -1 else if b < a then 1 else 0
set_option maxRecDepth 100000 in
theorem newest_any (W : World) (X B : Nat) (nw : Int) (x : Sp) (hX : W.cell? ⟨X, 0, none⟩ = some (.pointer (some ⟨B, 0, none⟩))) (hN : W.cell? ⟨B, 4, none⟩ = some (.int .i64 nw)) :
    Calls Try.prog 41 #[.agg #[.int .i64 x.1, .int .i64 x.2], .pointer (some ⟨X, 0, none⟩)] W fun e w' => e = .returned (.bool (isNew nw x)) ∧ w' = (W.alloc (.cells #[.int .i64 x.1, .int .i64 x.2] 51)).drew := by
  obtain ⟨x1, x2⟩ := x
  have hXl := block_lt_of_cell hX
  have hBl := block_lt_of_cell hN
  have al := (Below.refl W.heap.size W).alloc (Nat.le_refl _) (.cells #[.int .i64 x1, .int .i64 x2] 51)
  have q1 := (al.cell (p := ⟨X, 0, none⟩) hXl).trans hX
  have q2 := (al.cell (p := ⟨B, 4, none⟩) hBl).trans hN
  have HX := Lib.hid hX
  clear al hX hN
  by_cases h1 : x1 ≤ nw
  · go_enter Try.func41, Try.ntmps41
    go_wp2_with fail
    have z0 : (W.alloc (.cells #[.int .i64 x1, .int .i64 x2] 51)).cell? ⟨W.heap.size, 0, none⟩ = some (.int .i64 x1) := by simp
    have z1 : (W.alloc (.cells #[.int .i64 x1, .int .i64 x2] 51)).cell? ⟨W.heap.size, 1, none⟩ = some (.int .i64 x2) := by simp
    refine wp_region_held_drew (S := (fun w' : World => w'.cell? ⟨X, 0, none⟩ = some (.pointer (some ⟨B, 0, none⟩)) ∧ w'.cell? ⟨B, 4, none⟩ = some (.int .i64 nw) ∧ w'.cell? ⟨W.heap.size, 0, none⟩ = some (.int .i64 x1) ∧ w'.cell? ⟨W.heap.size, 1, none⟩ = some (.int .i64 x2))) (by kernel_rfl) (⟨q1, q2, z0, z1⟩) (fun hHeld => ?_)
    refine wpAnyH_take (i := 0) (v := ?_) (by simp only [List.getElem?_toArray, List.getElem?_cons_zero]; rfl) (by kernel_rfl) (by kernel_rfl) (by kernel_rfl) (by exact fun _ _ _ h => h) (Or.inl ⟨by rfl, ?_⟩) (by assumption) ?_
    rotate_left 1
    · intro w hSw; (obtain ⟨g0, g1, g2, g3⟩ := hSw); go_simp; (try with_reducible rfl)
    (try simp only [Act.put, List.setIfInBounds_toArray, List.set_cons_zero, List.set_cons_succ])
    refine wpAnyH_take (i := 1) (v := ?_) (by simp only [List.getElem?_toArray, List.getElem?_cons_succ, List.getElem?_cons_zero]; rfl) (by kernel_rfl) (by kernel_rfl) (by kernel_rfl) (by exact fun _ _ _ h => h) (Or.inl ⟨by rfl, ?_⟩) (by assumption) ?_
    rotate_left 1
    · intro w hSw; (obtain ⟨g0, g1, g2, g3⟩ := hSw); go_simp; (try with_reducible rfl)
    (try simp only [Act.put, List.setIfInBounds_toArray, List.set_cons_zero, List.set_cons_succ])
    refine wpAnyH_take (i := 2) (v := ?_) (by simp only [List.getElem?_toArray, List.getElem?_cons_succ, List.getElem?_cons_zero]; rfl) (by kernel_rfl) (by kernel_rfl) (by kernel_rfl) (by exact fun _ _ _ h => h) (Or.inl ⟨by rfl, ?_⟩) (by assumption) ?_
    rotate_left 1
    · intro w hSw; (obtain ⟨g0, g1, g2, g3⟩ := hSw); go_simp; (try with_reducible rfl)
    (try simp only [Act.put, List.setIfInBounds_toArray, List.set_cons_zero, List.set_cons_succ])
    refine wpAnyH_take (i := 3) (v := ?_) (by simp only [List.getElem?_toArray, List.getElem?_cons_succ, List.getElem?_cons_zero]; rfl) (by kernel_rfl) (by kernel_rfl) (by kernel_rfl) (by exact fun _ _ _ h => h) (Or.inl ⟨by rfl, ?_⟩) (by assumption) ?_
    rotate_left 1
    · intro w hSw; (obtain ⟨g0, g1, g2, g3⟩ := hSw); go_simp; (try with_reducible rfl)
    (try simp only [Act.put, List.setIfInBounds_toArray, List.set_cons_zero, List.set_cons_succ])
    refine wpAnyH_take (i := 4) (v := ?_) (by simp only [List.getElem?_toArray, List.getElem?_cons_succ, List.getElem?_cons_zero]; rfl) (by kernel_rfl) (by kernel_rfl) (by kernel_rfl) (by exact fun _ _ _ h => h) (Or.inl ⟨by rfl, ?_⟩) (by assumption) ?_
    rotate_left 1
    · intro w hSw; (obtain ⟨g0, g1, g2, g3⟩ := hSw); go_simp; (try with_reducible rfl)
    (try simp only [Act.put, List.setIfInBounds_toArray, List.set_cons_zero, List.set_cons_succ])
    refine wpAnyH_take (i := 5) (v := ?_) (by simp only [List.getElem?_toArray, List.getElem?_cons_succ, List.getElem?_cons_zero]; rfl) (by kernel_rfl) (by kernel_rfl) (by kernel_rfl) (by exact fun _ _ _ h => h) (Or.inl ⟨by rfl, ?_⟩) (by assumption) ?_
    rotate_left 1
    · intro w hSw; (obtain ⟨g0, g1, g2, g3⟩ := hSw); go_simp; (try with_reducible rfl)
    (try simp only [Act.put, List.setIfInBounds_toArray, List.set_cons_zero, List.set_cons_succ])
    refine wpAnyH_take (i := 6) (v := ?_) (by simp only [List.getElem?_toArray, List.getElem?_cons_succ, List.getElem?_cons_zero]; rfl) (by kernel_rfl) (by kernel_rfl) (by kernel_rfl) (by exact fun _ _ _ h => h) (Or.inl ⟨by rfl, ?_⟩) (by assumption) ?_
    rotate_left 1
    · intro w hSw; (obtain ⟨g0, g1, g2, g3⟩ := hSw); go_simp; (try with_reducible rfl)
    (try simp only [Act.put, List.setIfInBounds_toArray, List.set_cons_zero, List.set_cons_succ])
    refine wpAnyH_take (i := 7) (v := ?_) (by simp only [List.getElem?_toArray, List.getElem?_cons_succ, List.getElem?_cons_zero]; rfl) (by kernel_rfl) (by kernel_rfl) (by kernel_rfl) (by exact fun _ _ _ h => h) (Or.inl ⟨by rfl, ?_⟩) (by assumption) ?_
    rotate_left 1
    · intro w hSw; (obtain ⟨g0, g1, g2, g3⟩ := hSw); go_simp; (try with_reducible rfl)
    (try simp only [Act.put, List.setIfInBounds_toArray, List.set_cons_zero, List.set_cons_succ])
    refine wpAnyH_take (i := 8) (v := ?_) (by simp only [List.getElem?_toArray, List.getElem?_cons_succ, List.getElem?_cons_zero]; rfl) (by kernel_rfl) (by kernel_rfl) (by kernel_rfl) (by exact fun _ _ _ h => h) (Or.inl ⟨by rfl, ?_⟩) (by assumption) ?_
    rotate_left 1
    · intro w hSw; (obtain ⟨g0, g1, g2, g3⟩ := hSw); go_simp; (try with_reducible rfl)
    (try simp only [Act.put, List.setIfInBounds_toArray, List.set_cons_zero, List.set_cons_succ])
    refine wpAnyH_take (i := 9) (v := ?_) (by simp only [List.getElem?_toArray, List.getElem?_cons_succ, List.getElem?_cons_zero]; rfl) (by kernel_rfl) (by kernel_rfl) (by kernel_rfl) (by exact fun _ _ _ h => h) (Or.inl ⟨by rfl, ?_⟩) (by assumption) ?_
    rotate_left 1
    · intro w hSw; (obtain ⟨g0, g1, g2, g3⟩ := hSw); go_simp; (try with_reducible rfl)
    (try simp only [Act.put, List.setIfInBounds_toArray, List.set_cons_zero, List.set_cons_succ])
    refine wpAnyH_take (i := 10) (v := ?_) (by simp only [List.getElem?_toArray, List.getElem?_cons_succ, List.getElem?_cons_zero]; rfl) (by kernel_rfl) (by kernel_rfl) (by kernel_rfl) (by exact fun _ _ _ h => h) (Or.inl ⟨by rfl, ?_⟩) (by assumption) ?_
    rotate_left 1
    · intro w hSw; (obtain ⟨g0, g1, g2, g3⟩ := hSw); go_simp; (try with_reducible rfl)
    (try simp only [Act.put, List.setIfInBounds_toArray, List.set_cons_zero, List.set_cons_succ])
    refine wpAnyH_take (i := 11) (v := ?_) (by simp only [List.getElem?_toArray, List.getElem?_cons_succ, List.getElem?_cons_zero]; rfl) (by kernel_rfl) (by kernel_rfl) (by kernel_rfl) (by exact fun _ _ _ h => h) (Or.inl ⟨by rfl, ?_⟩) (by assumption) ?_
    rotate_left 1
    · intro w hSw; (obtain ⟨g0, g1, g2, g3⟩ := hSw); go_simp; (try with_reducible rfl)
    (try simp only [Act.put, List.setIfInBounds_toArray, List.set_cons_zero, List.set_cons_succ])
    refine wpAnyH_take (i := 12) (v := ?_) (by simp only [List.getElem?_toArray, List.getElem?_cons_succ, List.getElem?_cons_zero]; rfl) (by kernel_rfl) (by kernel_rfl) (by kernel_rfl) (by exact fun _ _ _ h => h) (Or.inl ⟨by rfl, ?_⟩) (by assumption) ?_
    rotate_left 1
    · intro w hSw; (obtain ⟨g0, g1, g2, g3⟩ := hSw); go_simp; (try with_reducible rfl)
    (try simp only [Act.put, List.setIfInBounds_toArray, List.set_cons_zero, List.set_cons_succ])
    refine wpAnyH_take (i := 13) (v := ?_) (by simp only [List.getElem?_toArray, List.getElem?_cons_succ, List.getElem?_cons_zero]; rfl) (by kernel_rfl) (by kernel_rfl) (by kernel_rfl) (by exact fun _ _ _ h => h) (Or.inl ⟨by rfl, ?_⟩) (by assumption) ?_
    rotate_left 1
    · intro w hSw; (obtain ⟨g0, g1, g2, g3⟩ := hSw); go_simp; (try with_reducible rfl)
    (try simp only [Act.put, List.setIfInBounds_toArray, List.set_cons_zero, List.set_cons_succ])
    refine wpAnyH_take (i := 14) (v := ?_) (by simp only [List.getElem?_toArray, List.getElem?_cons_succ, List.getElem?_cons_zero]; rfl) (by kernel_rfl) (by kernel_rfl) (by kernel_rfl) (by exact fun _ _ _ h => h) (Or.inl ⟨by rfl, ?_⟩) (by assumption) ?_
    rotate_left 1
    · intro w hSw; (obtain ⟨g0, g1, g2, g3⟩ := hSw); go_simp; (try with_reducible rfl)
    (try simp only [Act.put, List.setIfInBounds_toArray, List.set_cons_zero, List.set_cons_succ])
    refine wpAnyH_take (i := 15) (v := ?_) (by simp only [List.getElem?_toArray, List.getElem?_cons_succ, List.getElem?_cons_zero]; rfl) (by kernel_rfl) (by kernel_rfl) (by kernel_rfl) (by exact fun _ _ _ h => h) (Or.inl ⟨by rfl, ?_⟩) (by assumption) ?_
    rotate_left 1
    · intro w hSw; (obtain ⟨g0, g1, g2, g3⟩ := hSw); go_simp; (try with_reducible rfl)
    (try simp only [Act.put, List.setIfInBounds_toArray, List.set_cons_zero, List.set_cons_succ])
    refine wpAnyH_take (i := 16) (v := ?_) (by simp only [List.getElem?_toArray, List.getElem?_cons_succ, List.getElem?_cons_zero]; rfl) (by kernel_rfl) (by kernel_rfl) (by kernel_rfl) (by exact fun _ _ _ h => h) (Or.inl ⟨by rfl, ?_⟩) (by assumption) ?_
    rotate_left 1
    · intro w hSw; (obtain ⟨g0, g1, g2, g3⟩ := hSw); go_simp; (try with_reducible rfl)
    (try simp only [Act.put, List.setIfInBounds_toArray, List.set_cons_zero, List.set_cons_succ])
    refine wpAnyH_done (by kernel_rfl) ?_ _
    go_wp2_with fail
    go_ret
    refine ⟨?_, rfl⟩
    show Ending.returned (Value.bool (decide (nw < x2))) = _
    congr 2
    unfold isNew
    apply Bool.eq_iff_iff.2
    rw [decide_eq_true_iff, decide_eq_true_iff]
    exact ⟨fun h => ⟨h1, h⟩, fun h => h.2⟩
  · have h2 : nw < x1 := by omega
    go_enter Try.func41, Try.ntmps41
    go_wp2_with fail
    have z0 : (W.alloc (.cells #[.int .i64 x1, .int .i64 x2] 51)).cell? ⟨W.heap.size, 0, none⟩ = some (.int .i64 x1) := by simp
    have z1 : (W.alloc (.cells #[.int .i64 x1, .int .i64 x2] 51)).cell? ⟨W.heap.size, 1, none⟩ = some (.int .i64 x2) := by simp
    refine wp_region_held_drew (S := (fun w' : World => w'.cell? ⟨X, 0, none⟩ = some (.pointer (some ⟨B, 0, none⟩)) ∧ w'.cell? ⟨B, 4, none⟩ = some (.int .i64 nw) ∧ w'.cell? ⟨W.heap.size, 0, none⟩ = some (.int .i64 x1) ∧ w'.cell? ⟨W.heap.size, 1, none⟩ = some (.int .i64 x2))) (by kernel_rfl) (⟨q1, q2, z0, z1⟩) (fun hHeld => ?_)
    refine wpAnyH_take (i := 0) (v := ?_) (by simp only [List.getElem?_toArray, List.getElem?_cons_zero]; rfl) (by kernel_rfl) (by kernel_rfl) (by kernel_rfl) (by exact fun _ _ _ h => h) (Or.inl ⟨by rfl, ?_⟩) (by assumption) ?_
    rotate_left 1
    · intro w hSw; (obtain ⟨g0, g1, g2, g3⟩ := hSw); go_simp; (try with_reducible rfl)
    (try simp only [Act.put, List.setIfInBounds_toArray, List.set_cons_zero, List.set_cons_succ])
    refine wpAnyH_take (i := 1) (v := ?_) (by simp only [List.getElem?_toArray, List.getElem?_cons_succ, List.getElem?_cons_zero]; rfl) (by kernel_rfl) (by kernel_rfl) (by kernel_rfl) (by exact fun _ _ _ h => h) (Or.inl ⟨by rfl, ?_⟩) (by assumption) ?_
    rotate_left 1
    · intro w hSw; (obtain ⟨g0, g1, g2, g3⟩ := hSw); go_simp; (try with_reducible rfl)
    (try simp only [Act.put, List.setIfInBounds_toArray, List.set_cons_zero, List.set_cons_succ])
    refine wpAnyH_take (i := 2) (v := ?_) (by simp only [List.getElem?_toArray, List.getElem?_cons_succ, List.getElem?_cons_zero]; rfl) (by kernel_rfl) (by kernel_rfl) (by kernel_rfl) (by exact fun _ _ _ h => h) (Or.inl ⟨by rfl, ?_⟩) (by assumption) ?_
    rotate_left 1
    · intro w hSw; (obtain ⟨g0, g1, g2, g3⟩ := hSw); go_simp; (try with_reducible rfl)
    (try simp only [Act.put, List.setIfInBounds_toArray, List.set_cons_zero, List.set_cons_succ])
    refine wpAnyH_take (i := 3) (v := ?_) (by simp only [List.getElem?_toArray, List.getElem?_cons_succ, List.getElem?_cons_zero]; rfl) (by kernel_rfl) (by kernel_rfl) (by kernel_rfl) (by exact fun _ _ _ h => h) (Or.inl ⟨by rfl, ?_⟩) (by assumption) ?_
    rotate_left 1
    · intro w hSw; (obtain ⟨g0, g1, g2, g3⟩ := hSw); go_simp; (try with_reducible rfl)
    (try simp only [Act.put, List.setIfInBounds_toArray, List.set_cons_zero, List.set_cons_succ])
    refine wpAnyH_take (i := 4) (v := ?_) (by simp only [List.getElem?_toArray, List.getElem?_cons_succ, List.getElem?_cons_zero]; rfl) (by kernel_rfl) (by kernel_rfl) (by kernel_rfl) (by exact fun _ _ _ h => h) (Or.inl ⟨by rfl, ?_⟩) (by assumption) ?_
    rotate_left 1
    · intro w hSw; (obtain ⟨g0, g1, g2, g3⟩ := hSw); go_simp; (try with_reducible rfl)
    (try simp only [Act.put, List.setIfInBounds_toArray, List.set_cons_zero, List.set_cons_succ])
    refine wpAnyH_take (i := 5) (v := ?_) (by simp only [List.getElem?_toArray, List.getElem?_cons_succ, List.getElem?_cons_zero]; rfl) (by kernel_rfl) (by kernel_rfl) (by kernel_rfl) (by exact fun _ _ _ h => h) (Or.inl ⟨by rfl, ?_⟩) (by assumption) ?_
    rotate_left 1
    · intro w hSw; (obtain ⟨g0, g1, g2, g3⟩ := hSw); go_simp; (try with_reducible rfl)
    (try simp only [Act.put, List.setIfInBounds_toArray, List.set_cons_zero, List.set_cons_succ])
    refine wpAnyH_take (i := 6) (v := .bool false) (by simp only [List.getElem?_toArray, List.getElem?_cons_succ, List.getElem?_cons_zero]; rfl) (by kernel_rfl) (by kernel_rfl) (by kernel_rfl) (by exact fun _ _ _ h => h) (Or.inl ⟨by rfl, ?_⟩) (by assumption) ?_
    · intro w hSw; go_simp; (try (rw [decide_eq_false_iff_not]; omega))
    (try simp only [Act.put, List.setIfInBounds_toArray, List.set_cons_zero, List.set_cons_succ])
    refine wpAnyH_take (i := 7) (v := ?_) (by simp only [List.getElem?_toArray, List.getElem?_cons_succ, List.getElem?_cons_zero]; rfl) (by kernel_rfl) (by kernel_rfl) (by kernel_rfl) (by exact fun _ _ _ h => h) (Or.inl ⟨by rfl, ?_⟩) (by assumption) ?_
    rotate_left 1
    · intro w hSw; (obtain ⟨g0, g1, g2, g3⟩ := hSw); go_simp; (try with_reducible rfl)
    (try simp only [Act.put, List.setIfInBounds_toArray, List.set_cons_zero, List.set_cons_succ])
    refine wpAnyH_take (i := 8) (v := undef) (by simp only [List.getElem?_toArray, List.getElem?_cons_succ, List.getElem?_cons_zero]; rfl) (by kernel_rfl) (by kernel_rfl) (by kernel_rfl) (by exact fun _ _ _ h => h) (Or.inr ⟨by rfl, rfl⟩) (by assumption) ?_
    (try simp only [Act.put, List.setIfInBounds_toArray, List.set_cons_zero, List.set_cons_succ])
    refine wpAnyH_take (i := 9) (v := undef) (by simp only [List.getElem?_toArray, List.getElem?_cons_succ, List.getElem?_cons_zero]; rfl) (by kernel_rfl) (by kernel_rfl) (by kernel_rfl) (by exact fun _ _ _ h => h) (Or.inr ⟨by rfl, rfl⟩) (by assumption) ?_
    (try simp only [Act.put, List.setIfInBounds_toArray, List.set_cons_zero, List.set_cons_succ])
    refine wpAnyH_take (i := 10) (v := undef) (by simp only [List.getElem?_toArray, List.getElem?_cons_succ, List.getElem?_cons_zero]; rfl) (by kernel_rfl) (by kernel_rfl) (by kernel_rfl) (by exact fun _ _ _ h => h) (Or.inr ⟨by rfl, rfl⟩) (by assumption) ?_
    (try simp only [Act.put, List.setIfInBounds_toArray, List.set_cons_zero, List.set_cons_succ])
    refine wpAnyH_take (i := 11) (v := undef) (by simp only [List.getElem?_toArray, List.getElem?_cons_succ, List.getElem?_cons_zero]; rfl) (by kernel_rfl) (by kernel_rfl) (by kernel_rfl) (by exact fun _ _ _ h => h) (Or.inr ⟨by rfl, rfl⟩) (by assumption) ?_
    (try simp only [Act.put, List.setIfInBounds_toArray, List.set_cons_zero, List.set_cons_succ])
    refine wpAnyH_take (i := 12) (v := undef) (by simp only [List.getElem?_toArray, List.getElem?_cons_succ, List.getElem?_cons_zero]; rfl) (by kernel_rfl) (by kernel_rfl) (by kernel_rfl) (by exact fun _ _ _ h => h) (Or.inr ⟨by rfl, rfl⟩) (by assumption) ?_
    (try simp only [Act.put, List.setIfInBounds_toArray, List.set_cons_zero, List.set_cons_succ])
    refine wpAnyH_take (i := 13) (v := undef) (by simp only [List.getElem?_toArray, List.getElem?_cons_succ, List.getElem?_cons_zero]; rfl) (by kernel_rfl) (by kernel_rfl) (by kernel_rfl) (by exact fun _ _ _ h => h) (Or.inr ⟨by rfl, rfl⟩) (by assumption) ?_
    (try simp only [Act.put, List.setIfInBounds_toArray, List.set_cons_zero, List.set_cons_succ])
    refine wpAnyH_take (i := 14) (v := undef) (by simp only [List.getElem?_toArray, List.getElem?_cons_succ, List.getElem?_cons_zero]; rfl) (by kernel_rfl) (by kernel_rfl) (by kernel_rfl) (by exact fun _ _ _ h => h) (Or.inr ⟨by rfl, rfl⟩) (by assumption) ?_
    (try simp only [Act.put, List.setIfInBounds_toArray, List.set_cons_zero, List.set_cons_succ])
    refine wpAnyH_take (i := 15) (v := ?_) (by simp only [List.getElem?_toArray, List.getElem?_cons_succ, List.getElem?_cons_zero]; rfl) (by kernel_rfl) (by kernel_rfl) (by kernel_rfl) (by exact fun _ _ _ h => h) (Or.inl ⟨by rfl, ?_⟩) (by assumption) ?_
    rotate_left 1
    · intro w hSw; (obtain ⟨g0, g1, g2, g3⟩ := hSw); go_simp; (try with_reducible rfl)
    (try simp only [Act.put, List.setIfInBounds_toArray, List.set_cons_zero, List.set_cons_succ])
    refine wpAnyH_take (i := 16) (v := ?_) (by simp only [List.getElem?_toArray, List.getElem?_cons_succ, List.getElem?_cons_zero]; rfl) (by kernel_rfl) (by kernel_rfl) (by kernel_rfl) (by exact fun _ _ _ h => h) (Or.inl ⟨by rfl, ?_⟩) (by assumption) ?_
    rotate_left 1
    · intro w hSw; (obtain ⟨g0, g1, g2, g3⟩ := hSw); go_simp; (try with_reducible rfl)
    (try simp only [Act.put, List.setIfInBounds_toArray, List.set_cons_zero, List.set_cons_succ])
    refine wpAnyH_done (by kernel_rfl) ?_ _
    go_wp2_with fail
    go_ret
    refine ⟨?_, rfl⟩
    show Ending.returned (Value.bool false) = _
    congr 2
    unfold isNew
    rw [eq_comm, decide_eq_false_iff_not]
    dsimp only
    omega
theorem cmp_any (a b : Int) (W : World) : Calls Try.prog 45 #[.int .i64 a, .int .i64 b] W fun e w' => e = .returned (.int .i64 (cmpI a b)) ∧ w' = W := by
  by_cases h1 : a < b
  · have HC := Lib.hid (show cmpI a b = -1 by unfold cmpI; rw [if_pos h1])
    rw [HC.out]
    go_enter Try.func45, Try.ntmps45
    go_wp2
    go_ret
    exact ⟨rfl, rfl⟩
  · by_cases h2 : b < a
    · have HC := Lib.hid (show cmpI a b = 1 by unfold cmpI; rw [if_neg h1, if_pos h2])
      rw [HC.out]
      go_enter Try.func45, Try.ntmps45
      go_wp2
      go_ret
      exact ⟨rfl, rfl⟩
    · have HC := Lib.hid (show cmpI a b = 0 by unfold cmpI; rw [if_neg h1, if_neg h2])
      rw [HC.out]
      go_enter Try.func45, Try.ntmps45
      go_wp2
      go_ret
      exact ⟨rfl, rfl⟩
/-- w' is w, some draws on, with new blocks. -/
def Grew (w w' : World) : Prop := ∃ q os, w' = Sort.grow (w.drewN q) os
theorem Grew.refl (w : World) : Grew w w := ⟨0, #[], by rw [Sort.grow_empty]; rfl⟩
theorem Grew.alloc {w w' : World} (h : Grew w w') (o : Obj) : Grew w (w'.alloc o) := by
  obtain ⟨q, os, rfl⟩ := h
  exact ⟨q, os ++ #[o], by rw [Sort.alloc_eq_grow, Sort.grow_grow]⟩
theorem Grew.drew {w w' : World} (h : Grew w w') : Grew w w'.drew := by
  obtain ⟨q, os, rfl⟩ := h
  exact ⟨q + 1, os, rfl⟩
def cfB (nw : Int) (x y : Sp) : Int := if isNew nw x = isNew nw y then cmpI y.1 x.1 else if isNew nw x = true then -1 else 1
set_option maxRecDepth 100000 in
set_option maxHeartbeats 1000000 in
theorem order_any (W : World) (Fb X B : Nat) (nw : Int) (x y : Sp) (hF : W.cell? ⟨Fb, 0, none⟩ = some (.func (.func 41) #[] #[.pointer (some ⟨X, 0, none⟩)])) (hX : W.cell? ⟨X, 0, none⟩ = some (.pointer (some ⟨B, 0, none⟩))) (hN : W.cell? ⟨B, 4, none⟩ = some (.int .i64 nw)) :
    Calls Try.prog 44 #[.agg #[.int .i64 x.1, .int .i64 x.2], .agg #[.int .i64 y.1, .int .i64 y.2], .pointer (some ⟨Fb, 0, none⟩)] W fun e w' => e = .returned (.int .i64 (cfB nw x y)) ∧ Grew W w' := by
  obtain ⟨x1, x2⟩ := x
  obtain ⟨y1, y2⟩ := y
  obtain ⟨W2, hW2⟩ : ∃ W2, W2 = (W.alloc (.cells #[.int .i64 x1, .int .i64 x2] 51)).alloc (.cells #[.int .i64 y1, .int .i64 y2] 51) := ⟨_, rfl⟩
  have hb2 : Below W.heap.size W W2 := by rw [hW2]; exact ((Below.refl _ W).alloc (Nat.le_refl _) _).alloc (by simp) _
  have hg2 : Grew W W2 := by rw [hW2]; exact ((Grew.refl W).alloc _).alloc _
  have hs2 : W2.heap.size = W.heap.size + 1 + 1 := by rw [hW2]; simp
  have a0 : W2.cell? ⟨W.heap.size, 0, none⟩ = some (.int .i64 x1) := by rw [hW2]; simp
  have a1 : W2.cell? ⟨W.heap.size, 1, none⟩ = some (.int .i64 x2) := by rw [hW2]; simp
  have b0 : W2.cell? ⟨W.heap.size + 1, 0, none⟩ = some (.int .i64 y1) := by rw [hW2]; simp
  have b1 : W2.cell? ⟨W.heap.size + 1, 1, none⟩ = some (.int .i64 y2) := by rw [hW2]; simp
  have f0 := (hb2.cell (p := ⟨Fb, 0, none⟩) (block_lt_of_cell hF)).trans hF
  have x0 := (hb2.cell (p := ⟨X, 0, none⟩) (block_lt_of_cell hX)).trans hX
  have n0 := (hb2.cell (p := ⟨B, 4, none⟩) (block_lt_of_cell hN)).trans hN
  have HK := Lib.hid (fun (w' : World) (h : Below W2.heap.size W2 w') => show (w'.cell? ⟨Fb, 0, none⟩ = some (.func (.func 41) #[] #[.pointer (some ⟨X, 0, none⟩)]) ∧ w'.cell? ⟨X, 0, none⟩ = some (.pointer (some ⟨B, 0, none⟩)) ∧ w'.cell? ⟨B, 4, none⟩ = some (.int .i64 nw)) ∧ w'.cell? ⟨W.heap.size, 0, none⟩ = some (.int .i64 x1) ∧ w'.cell? ⟨W.heap.size, 1, none⟩ = some (.int .i64 x2) ∧ w'.cell? ⟨W.heap.size + 1, 0, none⟩ = some (.int .i64 y1) ∧ w'.cell? ⟨W.heap.size + 1, 1, none⟩ = some (.int .i64 y2) from
    ⟨⟨(h.cell (p := ⟨Fb, 0, none⟩) (block_lt_of_cell f0)).trans f0, (h.cell (p := ⟨X, 0, none⟩) (block_lt_of_cell x0)).trans x0, (h.cell (p := ⟨B, 4, none⟩) (block_lt_of_cell n0)).trans n0⟩, (h.cell (p := ⟨W.heap.size, 0, none⟩) (block_lt_of_cell a0)).trans a0, (h.cell (p := ⟨W.heap.size, 1, none⟩) (block_lt_of_cell a1)).trans a1, (h.cell (p := ⟨W.heap.size + 1, 0, none⟩) (block_lt_of_cell b0)).trans b0, (h.cell (p := ⟨W.heap.size + 1, 1, none⟩) (block_lt_of_cell b1)).trans b1⟩)
  have HW2 := Lib.hid hW2
  have HG2 := Lib.hid hg2
  clear hb2 hg2 hF hX hN f0 x0 n0 a0 a1 b0 b1 hW2
  go_enter Try.func44, Try.ntmps44
  go_wp2_with fail
  rw [← HW2.out]
  refine wp_mono (Q := onNormal (fun a' w' => a' = { tmps := #[.agg #[.int .i64 x1, .int .i64 x2], .agg #[.int .i64 y1, .int .i64 y2], .pointer (some ⟨Fb, 0, none⟩), .pointer (some ⟨W.heap.size, 0, none⟩), .pointer (some ⟨W.heap.size + 1, 0, none⟩), .int .i64 0, .bool (isNew nw (x1, x2) == isNew nw (y1, y2)), .func (.func 41) #[] #[.pointer (some ⟨X, 0, none⟩)], .agg #[.int .i64 x1, .int .i64 x2], .bool (isNew nw (x1, x2)), .func (.func 41) #[] #[.pointer (some ⟨X, 0, none⟩)], .agg #[.int .i64 y1, .int .i64 y2], .bool (isNew nw (y1, y2)), .bool (isNew nw (x1, x2) == isNew nw (y1, y2)), undef, undef, undef, undef, undef, undef, undef, undef, undef], defers := [] } ∧ Below W2.heap.size W2 w' ∧ Grew W w')) ?_ (onNormal_le ?_)
  · refine wp_region_held_drew (S := (fun w' : World => (w'.cell? ⟨Fb, 0, none⟩ = some (.func (.func 41) #[] #[.pointer (some ⟨X, 0, none⟩)]) ∧ w'.cell? ⟨X, 0, none⟩ = some (.pointer (some ⟨B, 0, none⟩)) ∧ w'.cell? ⟨B, 4, none⟩ = some (.int .i64 nw)) ∧ w'.cell? ⟨W.heap.size, 0, none⟩ = some (.int .i64 x1) ∧ w'.cell? ⟨W.heap.size, 1, none⟩ = some (.int .i64 x2) ∧ w'.cell? ⟨W.heap.size + 1, 0, none⟩ = some (.int .i64 y1) ∧ w'.cell? ⟨W.heap.size + 1, 1, none⟩ = some (.int .i64 y2))) (by kernel_rfl) (HK.out _ (Below.refl _ W2).drew) (fun hHeld => ?_)
    refine wpAnyH_take (i := 0) (v := ?_) (by simp only [List.getElem?_toArray, List.getElem?_cons_zero]; rfl) (by kernel_rfl) (by kernel_rfl) (by kernel_rfl) (by exact fun _ _ _ h => h) (Or.inl ⟨by rfl, ?_⟩) (by assumption) ?_
    rotate_left 1
    · intro w hSw; (obtain ⟨⟨g0, g1, g2⟩, g3, g4, g5, g6⟩ := hSw); go_simp; (try with_reducible rfl)
    (try simp only [Act.put, List.setIfInBounds_toArray, List.set_cons_zero, List.set_cons_succ])
    refine wpAnyH_take (i := 1) (v := ?_) (by simp only [List.getElem?_toArray, List.getElem?_cons_succ, List.getElem?_cons_zero]; rfl) (by kernel_rfl) (by kernel_rfl) (by kernel_rfl) (by exact fun _ _ _ h => h) (Or.inl ⟨by rfl, ?_⟩) (by assumption) ?_
    rotate_left 1
    · intro w hSw; (obtain ⟨⟨g0, g1, g2⟩, g3, g4, g5, g6⟩ := hSw); go_simp; (try with_reducible rfl)
    (try simp only [Act.put, List.setIfInBounds_toArray, List.set_cons_zero, List.set_cons_succ])
    refine wpAnyH_take (i := 3) (v := ?_) (by simp only [List.getElem?_toArray, List.getElem?_cons_succ, List.getElem?_cons_zero]; rfl) (by kernel_rfl) (by kernel_rfl) (by kernel_rfl) (by exact fun _ _ _ h => h) (Or.inl ⟨by rfl, ?_⟩) (by assumption) ?_
    rotate_left 1
    · intro w hSw; (obtain ⟨⟨g0, g1, g2⟩, g3, g4, g5, g6⟩ := hSw); go_simp; (try with_reducible rfl)
    (try simp only [Act.put, List.setIfInBounds_toArray, List.set_cons_zero, List.set_cons_succ])
    refine wpAnyH_take (i := 4) (v := ?_) (by simp only [List.getElem?_toArray, List.getElem?_cons_succ, List.getElem?_cons_zero]; rfl) (by kernel_rfl) (by kernel_rfl) (by kernel_rfl) (by exact fun _ _ _ h => h) (Or.inl ⟨by rfl, ?_⟩) (by assumption) ?_
    rotate_left 1
    · intro w hSw; (obtain ⟨⟨g0, g1, g2⟩, g3, g4, g5, g6⟩ := hSw); go_simp; (try with_reducible rfl)
    (try simp only [Act.put, List.setIfInBounds_toArray, List.set_cons_zero, List.set_cons_succ])
    refine wpAnyH_ready (rs := [2]) (by kernel_rfl) (by simp) ?_
    refine AllReadyH.cons (by simp only [List.getElem?_toArray, List.getElem?_cons_succ, List.getElem?_cons_zero]; rfl) (fun Kq hKq => ?_) AllReadyH.nil
    go_simp
    refine (newest_any _ X B nw (x1, x2) hHeld.1.2.1 hHeld.1.2.2).mono ?_
    rintro e w1 ⟨rfl, hw1⟩
    have hb1 : Below W2.heap.size W2 w1 := by rw [hw1]; exact (((Below.refl _ W2).drew).alloc (Nat.le_refl _) _).drew
    have hg1 : Grew W w1 := by rw [hw1]; exact ((HG2.out.drew).alloc _).drew
    clear hw1
    go_simp
    refine hKq.out _ _ (HK.out _ hb1) (fun hHeld2 => ?_)
    clear hKq Kq hHeld
    (try simp only [Act.put, List.setIfInBounds_toArray, List.set_cons_zero, List.set_cons_succ])
    have hHeld := hHeld2
    clear hHeld2
    refine wpAnyH_ready (rs := [5]) (by kernel_rfl) (by simp) ?_
    refine AllReadyH.cons (by simp only [List.getElem?_toArray, List.getElem?_cons_succ, List.getElem?_cons_zero]; rfl) (fun Kq hKq => ?_) AllReadyH.nil
    go_simp
    refine (newest_any _ X B nw (y1, y2) hHeld.1.2.1 hHeld.1.2.2).mono ?_
    rintro e w2 ⟨rfl, hw2⟩
    have hb2 : Below W2.heap.size W2 w2 := by rw [hw2]; exact (hb1.alloc hb1.size _).drew
    have hg2 : Grew W w2 := by rw [hw2]; exact (hg1.alloc _).drew
    clear hw2 hb1 hg1
    go_simp
    refine hKq.out _ _ (HK.out _ hb2) (fun hHeld2 => ?_)
    clear hKq Kq hHeld
    (try simp only [Act.put, List.setIfInBounds_toArray, List.set_cons_zero, List.set_cons_succ])
    have hHeld := hHeld2
    clear hHeld2
    refine wpAnyH_take (i := 6) (v := ?_) (by simp only [List.getElem?_toArray, List.getElem?_cons_succ, List.getElem?_cons_zero]; rfl) (by kernel_rfl) (by kernel_rfl) (by kernel_rfl) (by exact fun _ _ _ h => h) (Or.inl ⟨by rfl, ?_⟩) (by assumption) ?_
    rotate_left 1
    · intro w hSw; (obtain ⟨⟨g0, g1, g2⟩, g3, g4, g5, g6⟩ := hSw); go_simp; (try with_reducible rfl)
    (try simp only [Act.put, List.setIfInBounds_toArray, List.set_cons_zero, List.set_cons_succ])
    refine wpAnyH_take (i := 7) (v := ?_) (by simp only [List.getElem?_toArray, List.getElem?_cons_succ, List.getElem?_cons_zero]; rfl) (by kernel_rfl) (by kernel_rfl) (by kernel_rfl) (by exact fun _ _ _ h => h) (Or.inl ⟨by rfl, ?_⟩) (by assumption) ?_
    rotate_left 1
    · intro w hSw; (obtain ⟨⟨g0, g1, g2⟩, g3, g4, g5, g6⟩ := hSw); go_simp; (try with_reducible rfl)
    (try simp only [Act.put, List.setIfInBounds_toArray, List.set_cons_zero, List.set_cons_succ])
    refine wpAnyH_done (by kernel_rfl) ?_ _
    exact ⟨rfl, hb2, hg2⟩
  · rintro a' w3 ⟨rfl, hb3, hg3⟩
    obtain ⟨⟨c0, c1, c2⟩, c3, c4, c5, c6⟩ := HK.out _ hb3
    have HG3 := Lib.hid hg3
    have hs3 := hb3.size
    have HD := Lib.hid (show cfB nw (x1, x2) (y1, y2) = if isNew nw (x1, x2) = isNew nw (y1, y2) then cmpI y1 x1 else if isNew nw (x1, x2) = true then -1 else 1 from rfl)
    have HNA := Lib.hid (newest_any w3 X B nw (x1, x2) c1 c2)
    clear hb3 hg3 HK HG2 HW2
    generalize isNew nw (x1, x2) = nx at HD HNA ⊢
    generalize isNew nw (y1, y2) = ny at HD ⊢
    cases nx <;> cases ny
    · go_wp2_with fail
      refine (cmp_any _ _ _).mono ?_
      rintro e w4 ⟨rfl, rfl⟩
      go_wp2_with fail
      go_ret
      refine ⟨?_, HG3.out⟩
      rw [HD.out]
      rfl
    · go_wp2_with fail
      refine HNA.out.mono ?_
      rintro e w4 ⟨rfl, hw4⟩
      have HG4 := Lib.hid (show Grew W w4 by rw [hw4]; exact (HG3.out.alloc _).drew)
      clear hw4 HNA
      go_wp2_with fail
      go_ret
      refine ⟨?_, HG4.out⟩
      rw [HD.out]
      rfl
    · go_wp2_with fail
      refine HNA.out.mono ?_
      rintro e w4 ⟨rfl, hw4⟩
      have HG4 := Lib.hid (show Grew W w4 by rw [hw4]; exact (HG3.out.alloc _).drew)
      clear hw4 HNA
      go_wp2_with fail
      go_ret
      refine ⟨?_, HG4.out⟩
      rw [HD.out]
      rfl
    · go_wp2_with fail
      refine (cmp_any _ _ _).mono ?_
      rintro e w4 ⟨rfl, rfl⟩
      go_wp2_with fail
      go_ret
      refine ⟨?_, HG3.out⟩
      rw [HD.out]
      rfl
end Go.Proofs.Ytfeppkgcimgkeaa
