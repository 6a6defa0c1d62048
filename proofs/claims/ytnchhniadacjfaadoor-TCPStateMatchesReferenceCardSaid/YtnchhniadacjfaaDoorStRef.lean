/- The reference's Step agrees with the table. -/
import Derived.Test.YtnchhniadacjfaaDoorStBools
import Derived.Deep.Light
namespace Go.Proofs.YtnchhniadacjfaaDoor
open Go.RowKit
def refV (s e : Int) : Int :=
  if s < 0 ∨ 9 < s then -1 else
  if s ≠ 0 ∧ (e = 8 ∨ e = 9) then 0 else
  if s = 0 then (if e = 1 then 1 else if e = 2 then 2 else -1) else
  if s = 1 then (if e = 5 then 0 else if e = 3 then 3 else if e = 2 then 2 else -1) else
  if s = 2 then (if e = 4 then 3 else if e = 5 then 4 else if e = 6 then 6 else -1) else
  if s = 3 then (if e = 5 then 4 else if e = 6 then 6 else -1) else
  if s = 4 then (if e = 7 then 5 else if e = 6 then 7 else -1) else
  if s = 5 then (if e = 6 then 9 else -1) else
  if s = 6 then (if e = 5 then 8 else -1) else
  if s = 7 then (if e = 7 then 9 else -1) else
  if s = 8 then (if e = 7 then 0 else -1) else -1
theorem refV_in : ∀ a, a < 10 → ∀ b, b < 10 → refV (a : Nat) (b : Nat) = tripV 16 (a * 10 + b) := by decide +kernel
theorem refV_eq (s e : Int) : refV s e = stV s e := by
  by_cases h : 0 ≤ s ∧ s < 10 ∧ 0 ≤ e ∧ e < 10
  · obtain ⟨h1, h2, h3, h4⟩ := h
    obtain ⟨a, rfl⟩ := Int.eq_ofNat_of_zero_le h1
    obtain ⟨b, rfl⟩ := Int.eq_ofNat_of_zero_le h3
    rw [stV_in a b (by omega) (by omega)]
    exact refV_in a (by omega) b (by omega)
  · rw [stV_out s e (by omega)]
    by_cases hs : s < 0 ∨ 9 < s
    · unfold refV; rw [if_pos hs]
    · unfold refV
      rw [if_neg hs, if_neg (by omega)]
      have h1 : ¬ e = 1 := by omega
      have h2 : ¬ e = 2 := by omega
      have h3 : ¬ e = 3 := by omega
      have h4 : ¬ e = 4 := by omega
      have h5 : ¬ e = 5 := by omega
      have h6 : ¬ e = 6 := by omega
      have h7 : ¬ e = 7 := by omega
      simp [h1, h2, h3, h4, h5, h6, h7]
theorem ref_n {s e v : Int} (h : refV s e = v) : stN s e = (if v = -1 then 0 else v) ∧ stE s e = (if v = -1 then 170 else 0) := by
  rw [refV_eq] at h; unfold stN stE; rw [h]; exact ⟨rfl, rfl⟩
theorem ret_ref {s e a x v : Int} (h : refV s e = v) (ha : a = (if v = -1 then 0 else v)) (hx : x = (if v = -1 then 170 else 0)) :
    Ending.returned (.tuple #[.int .i64 a, .int .i64 x]) = .returned (.tuple #[.int .i64 (stN s e), .int .i64 (stE s e)]) :=
  ret2 (by rw [(ref_n h).1]; exact ha) (by rw [(ref_n h).2]; exact hx)
set_option maxHeartbeats 1000000 in
theorem refStep_s (s : Nat) (hs : s < 10) (e : Int) (w : World) :
    Calls Tryd.prog 11 #[.int .i64 s, .int .i64 e] w fun r w' => r = .returned (.tuple #[.int .i64 (stN s e), .int .i64 (stE s e)]) ∧ w = w' := by
  rcases (show s = 0 ∨ s = 1 ∨ s = 2 ∨ s = 3 ∨ s = 4 ∨ s = 5 ∨ s = 6 ∨ s = 7 ∨ s = 8 ∨ s = 9 by omega) with rfl | rfl | rfl | rfl | rfl | rfl | rfl | rfl | rfl | rfl
  all_goals
    go_enter Tryd.func11, Tryd.ntmps11
    go_wp2
    all_goals go_ret2
    all_goals go_light
    all_goals refine ⟨ret2 ?_ ?_, rfl⟩
    all_goals first | unfold stN | unfold stE
    all_goals rw [← refV_eq]
    all_goals simp_all [refV]
set_option maxHeartbeats 400000 in
theorem refStep_out (s e : Int) (h : s < 0 ∨ 9 < s) (w : World) :
    Calls Tryd.prog 11 #[.int .i64 s, .int .i64 e] w fun r w' => r = .returned (.tuple #[.int .i64 (stN s e), .int .i64 (stE s e)]) ∧ w = w' := by
  have HN := Lib.hid (show (0 : Int) = stN s e by unfold stN; rw [stV_out s e (by omega)]; rfl)
  have HE := Lib.hid (show (170 : Int) = stE s e by unfold stE; rw [stV_out s e (by omega)]; rfl)
  by_cases c1 : s < 0
  · clear h
    go_enter Tryd.func11, Tryd.ntmps11
    go_wp2
    go_ret2
    exact ⟨ret2 HN.out HE.out, rfl⟩
  · have c2 : 9 < s := by omega
    clear h
    go_enter Tryd.func11, Tryd.ntmps11
    go_wp2
    go_ret2
    exact ⟨ret2 HN.out HE.out, rfl⟩
theorem refStep_any (s e : Int) (w : World) :
    Calls Tryd.prog 11 #[.int .i64 s, .int .i64 e] w fun r w' => r = .returned (.tuple #[.int .i64 (stN s e), .int .i64 (stE s e)]) ∧ w = w' := by
  by_cases h : s < 0 ∨ 9 < s
  · exact refStep_out s e h w
  · obtain ⟨a, rfl⟩ := Int.eq_ofNat_of_zero_le (show 0 ≤ s by omega)
    exact refStep_s a (by omega) e w
end Go.Proofs.YtnchhniadacjfaaDoor
