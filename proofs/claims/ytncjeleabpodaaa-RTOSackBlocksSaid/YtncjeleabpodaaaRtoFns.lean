/- The timer's Acked, Backoff, Value. -/
import Derived.Test.YtncjeleabpodaaaRtoMem
import Derived.Deep.RegionWith
import Derived.Deep.RegionHeld3
namespace Go.Proofs.Ytncjeleabpodaaa
open Go.RowKit
theorem pair0 (w : World) (a b : Value) (t : TypeId) : (w.alloc (.cells #[a, b] t)).cell? ⟨w.heap.size, 0, none⟩ = some a := by
  rw [cell_of_row _ _ _ _ _ _ (heap_alloc_new _ _)]; rfl
theorem pair1 (w : World) (a b : Value) (t : TypeId) : (w.alloc (.cells #[a, b] t)).cell? ⟨w.heap.size, 1, none⟩ = some b := by
  rw [cell_of_row _ _ _ _ _ _ (heap_alloc_new _ _)]; rfl
set_option maxHeartbeats 800000 in
theorem backoff_any (B : Nat) (m : Tm) (hok : m.Ok) (w : World) (h : Tim B m w) :
    Calls Try.prog 42 #[.pointer (some ⟨B, 0, none⟩)] w fun e w' => e = .returned (.tuple #[]) ∧ Tim B m.backoff w' ∧ Chg B w w' := by
  obtain ⟨c0, c1, c2, c3, c4, c5, c6⟩ := h.cells
  obtain ⟨o1, o2, o3, o4, o5, o6⟩ := hok
  have f6 := h.free 6
  have hne : B ≠ w.heap.size := by have := h.lt; omega
  have HV := Lib.hid (show clampV (m.backs + 1) 0 8 = min (m.backs + 1) 8 by unfold clampV; omega)
  clear c0 c1 c2 c3 c4 c5
  go_enter Try.func42, Try.ntmps42
  go_wp2_with fail
  refine (clamp_any (m.backs + 1) 0 8 w.heap.size _ (pair0 _ _ _ _) (pair1 _ _ _ _)).mono ?_
  rintro e w1 ⟨rfl, rfl⟩
  rw [HV.out]
  have h2 := (h.alloc (.cells #[.int .i64 0, .int .i64 8] 3)).drew
  have hC := ((Chg.refl B w).alloc (.cells #[.int .i64 0, .int .i64 8] 3)).drew
  clear c6 f6
  generalize (w.alloc (.cells #[.int .i64 0, .int .i64 8] 3)).drew = W1 at h2 hC ⊢
  obtain ⟨c0, c1, c2, c3, c4, c5, c6⟩ := h2.cells
  have f6 := h2.free 6
  generalize hmm : min (m.backs + 1) 8 = b8
  go_wp2_with fail
  go_end0
  refine ⟨rfl, ?_, hC.setCell _ _⟩
  unfold Tm.backoff
  rw [hmm]
  exact h2.set 6 _ _ rfl
set_option maxHeartbeats 1600000 in
theorem base_any (B : Nat) (m : Tm) (hok : m.Ok) (w : World) (h : Tim B m w) :
    Calls Try.prog 53 #[.pointer (some ⟨B, 0, none⟩)] w fun e w' => e = .returned (.int .i64 m.base) ∧ Below w.heap.size w w' := by
  obtain ⟨c0, c1, c2, c3, c4, c5, c6⟩ := h.cells
  obtain ⟨o1, o2, o3, o4, o5, o6⟩ := hok
  have hne : B ≠ w.heap.size := by have := h.lt; omega
  clear c3 c4 c5 c6
  by_cases hh : m.had = true
  · have HV := Lib.hid (show clampV (m.trip / 8 + max m.dev 1) 4 240 = m.base by unfold clampV Tm.base; rw [if_pos hh])
    rw [hh] at c0
    clear hh
    by_cases hm : m.dev < 1
    · rw [show max m.dev 1 = 1 by omega] at HV
      go_enter Try.func53, Try.ntmps53
      go_wp2_with fail
      have e0 : m.trip.tdiv 8 = m.trip / 8 := Int.tdiv_eq_ediv_of_nonneg o1
      have e00 : IntKind.i64.wrap (m.trip / 8) = m.trip / 8 := IntWalk.i64_in _ (by omega)
      have e1 : IntKind.i64.wrap (m.trip / 8 + 1) = m.trip / 8 + 1 := IntWalk.i64_in _ (by omega)
      have hp0 : ((w.alloc (.cells #[.int .i64 4, .int .i64 240] 3)).drew).cell? ⟨w.heap.size, 0, none⟩ = some (.int .i64 4) := pair0 _ _ _ _
      have hp1 : ((w.alloc (.cells #[.int .i64 4, .int .i64 240] 3)).drew).cell? ⟨w.heap.size, 1, none⟩ = some (.int .i64 240) := pair1 _ _ _ _
      obtain ⟨-, q1, q2, -, -, -, -⟩ := (h.alloc (.cells #[.int .i64 4, .int .i64 240] 3)).cells
      have HP0 := Lib.hid hp0
      have HP1 := Lib.hid hp1
      clear hp0 hp1
      go_region_held3 (fun w' => w'.cell? ⟨B, 1, none⟩ = some (.int .i64 m.trip) ∧ w'.cell? ⟨B, 2, none⟩ = some (.int .i64 m.dev)) (go_keep) (first | (go_at_call 79; refine (clamp_any _ 4 240 w.heap.size _ HP0.out HP1.out).mono ?_; rintro e w1 ⟨rfl, rfl⟩))
      all_goals
        rw [HV.out]
        go_wp2_with fail
        go_ret
        exact ⟨rfl, (((Below.refl _ _).alloc (Nat.le_refl _) _).drew).drew⟩
    · rw [show max m.dev 1 = m.dev by omega] at HV
      go_enter Try.func53, Try.ntmps53
      go_wp2_with fail
      have e0 : m.trip.tdiv 8 = m.trip / 8 := Int.tdiv_eq_ediv_of_nonneg o1
      have e00 : IntKind.i64.wrap (m.trip / 8) = m.trip / 8 := IntWalk.i64_in _ (by omega)
      have e1 : IntKind.i64.wrap (m.trip / 8 + m.dev) = m.trip / 8 + m.dev := IntWalk.i64_in _ (by omega)
      have hp0 : ((w.alloc (.cells #[.int .i64 4, .int .i64 240] 3)).drew).cell? ⟨w.heap.size, 0, none⟩ = some (.int .i64 4) := pair0 _ _ _ _
      have hp1 : ((w.alloc (.cells #[.int .i64 4, .int .i64 240] 3)).drew).cell? ⟨w.heap.size, 1, none⟩ = some (.int .i64 240) := pair1 _ _ _ _
      obtain ⟨-, q1, q2, -, -, -, -⟩ := (h.alloc (.cells #[.int .i64 4, .int .i64 240] 3)).cells
      have HP0 := Lib.hid hp0
      have HP1 := Lib.hid hp1
      clear hp0 hp1
      go_region_held3 (fun w' => w'.cell? ⟨B, 1, none⟩ = some (.int .i64 m.trip) ∧ w'.cell? ⟨B, 2, none⟩ = some (.int .i64 m.dev)) (go_keep) (first | (go_at_call 79; refine (clamp_any _ 4 240 w.heap.size _ HP0.out HP1.out).mono ?_; rintro e w1 ⟨rfl, rfl⟩))
      all_goals
        rw [HV.out]
        go_wp2_with fail
        go_ret
        exact ⟨rfl, (((Below.refl _ _).alloc (Nat.le_refl _) _).drew).drew⟩
  · have hh' : m.had = false := by simpa using hh
    have HV := Lib.hid (show (12 : Int) = m.base by unfold Tm.base; rw [if_neg hh])
    rw [hh'] at c0
    clear hh hh'
    go_enter Try.func53, Try.ntmps53
    go_wp2_with fail
    go_ret
    exact ⟨ret_i HV.out, Below.refl _ _⟩
theorem shl_val (b : Int) (hb1 : 4 ≤ b) (hb2 : b ≤ 240) (k : Int) (hk1 : 0 ≤ k) (hk2 : k ≤ 8) : b * 2 ^ k.toNat ≤ 61440 ∧ 0 ≤ b * 2 ^ k.toNat := by
  have h : (2 : Int) ^ k.toNat ≤ 256 ∧ 1 ≤ (2 : Int) ^ k.toNat := by
    rcases (show k = 0 ∨ k = 1 ∨ k = 2 ∨ k = 3 ∨ k = 4 ∨ k = 5 ∨ k = 6 ∨ k = 7 ∨ k = 8 by omega) with rfl | rfl | rfl | rfl | rfl | rfl | rfl | rfl | rfl <;> decide
  constructor
  · calc b * 2 ^ k.toNat ≤ 240 * 2 ^ k.toNat := Int.mul_le_mul_of_nonneg_right hb2 (by omega)
      _ ≤ 240 * 256 := Int.mul_le_mul_of_nonneg_left h.1 (by omega)
  · exact Int.mul_nonneg (by omega) (by omega)
set_option maxHeartbeats 1600000 in
theorem value_any (B : Nat) (m : Tm) (hok : m.Ok) (w : World) (h : Tim B m w) :
    Calls Try.prog 20 #[.pointer (some ⟨B, 0, none⟩)] w fun e w' => e = .returned (.int .i64 m.value) ∧ Below w.heap.size w w' := by
  obtain ⟨c0, c1, c2, c3, c4, c5, c6⟩ := h.cells
  have hok' := hok
  obtain ⟨o1, o2, o3, o4, o5, o6⟩ := hok
  obtain ⟨b1, b2⟩ := m.base_bd
  have hT2 := h.drew
  have hlt : B < w.drew.heap.size := h.lt
  clear c0 c1 c2 c3 c4 c5
  go_enter Try.func20, Try.ntmps20
  go_wp2_with fail
  go_region_held3 (fun w' => w'.cell? ⟨B, 6, none⟩ = some (.int .i64 m.backs)) (first | exact hq6 | go_keep) (first | (go_at_call 53; refine (base_any B m hok' _ hT2).mono ?_; rintro e w1 ⟨rfl, hb1⟩; have hq6 := (hb1.cell (p := ⟨B, 6, none⟩) hlt).trans c6))
  all_goals
    have hv := shl_val m.base b1 b2 m.backs o5 o6
    have e1 : IntKind.i64.wrap (m.base * 2 ^ m.backs.toNat) = m.base * 2 ^ m.backs.toNat := IntWalk.i64_in _ (by omega)
    rw [e1]
    have hval : m.value = if 240 < m.base * 2 ^ m.backs.toNat then 240 else m.base * 2 ^ m.backs.toNat := by unfold Tm.value; split <;> omega
    rw [← hval]
    go_wp2_with fail
    go_ret
    exact ⟨rfl, (Below.refl _ _).drew.trans hb1⟩
end Go.Proofs.Ytncjeleabpodaaa
