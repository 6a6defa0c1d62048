/- CanSend, CanReceive, Synchronized, pick and the reference's Step: what each returns. -/
import Derived.Test.YtnchhniadacjfaaDoorStSmall
namespace Go.Proofs.YtnchhniadacjfaaDoor
open Go.RowKit
def canS (s : Int) : Bool := decide (s = 3 ∨ s = 6)
def canR (s : Int) : Bool := decide (s = 3 ∨ s = 4 ∨ s = 5)
def synced (s : Int) : Bool := decide (3 ≤ s ∧ s ≤ 9)
def pickV (c n : Int) : Int := (if c < 0 then -(c + 1) else c) % n
theorem ret1b {a b : Bool} (h : a = b) : Ending.returned (.bool a) = .returned (.bool b) := by rw [h]
theorem ret1i {a b : Int} (h : a = b) : Ending.returned (.int .i64 a) = .returned (.int .i64 b) := by rw [h]
set_option maxHeartbeats 400000 in
theorem canSend_any (s : Int) (w : World) : Calls Tryd.prog 12 #[.int .i64 s] w fun r w' => r = .returned (.bool (canS s)) ∧ w = w' := by
  by_cases c1 : s = 3
  · subst c1
    go_enter Tryd.func12, Tryd.ntmps12
    go_wp2
    go_ret
    exact ⟨rfl, rfl⟩
  · have c1' : (s == 3) = false := by simpa using c1
    have H := Lib.hid (show (s == 6) = canS s by unfold canS; rw [Bool.eq_iff_iff]; simp [c1])
    clear c1
    go_enter Tryd.func12, Tryd.ntmps12
    go_wp2
    go_ret
    exact ⟨ret1b H.out, rfl⟩
set_option maxHeartbeats 400000 in
theorem refCanSend_any (s : Int) (w : World) : Calls Tryd.prog 13 #[.int .i64 s] w fun r w' => r = .returned (.bool (canS s)) ∧ w = w' := by
  by_cases c1 : s = 3
  · subst c1
    go_enter Tryd.func13, Tryd.ntmps13
    go_wp2
    go_ret
    exact ⟨rfl, rfl⟩
  · have c1' : (s == 3) = false := by simpa using c1
    have H := Lib.hid (show (s == 6) = canS s by unfold canS; rw [Bool.eq_iff_iff]; simp [c1])
    clear c1
    go_enter Tryd.func13, Tryd.ntmps13
    go_wp2
    go_ret
    exact ⟨ret1b H.out, rfl⟩
set_option maxHeartbeats 400000 in
theorem canReceive_any (s : Int) (w : World) : Calls Tryd.prog 14 #[.int .i64 s] w fun r w' => r = .returned (.bool (canR s)) ∧ w = w' := by
  by_cases c1 : s = 3
  · subst c1
    go_enter Tryd.func14, Tryd.ntmps14
    go_wp2
    go_ret
    exact ⟨rfl, rfl⟩
  · by_cases c2 : s = 4
    · subst c2
      go_enter Tryd.func14, Tryd.ntmps14
      go_wp2
      go_ret
      exact ⟨rfl, rfl⟩
    · have c1' : (s == 3) = false := by simpa using c1
      have c2' : (s == 4) = false := by simpa using c2
      have H := Lib.hid (show (s == 5) = canR s by unfold canR; rw [Bool.eq_iff_iff]; simp [c1, c2])
      clear c1 c2
      go_enter Tryd.func14, Tryd.ntmps14
      go_wp2
      go_ret
      exact ⟨ret1b H.out, rfl⟩
set_option maxHeartbeats 400000 in
theorem refCanReceive_any (s : Int) (w : World) : Calls Tryd.prog 15 #[.int .i64 s] w fun r w' => r = .returned (.bool (canR s)) ∧ w = w' := by
  by_cases c1 : s = 3
  · subst c1
    go_enter Tryd.func15, Tryd.ntmps15
    go_wp2
    go_ret
    exact ⟨rfl, rfl⟩
  · by_cases c2 : s = 4
    · subst c2
      go_enter Tryd.func15, Tryd.ntmps15
      go_wp2
      go_ret
      exact ⟨rfl, rfl⟩
    · have c1' : (s == 3) = false := by simpa using c1
      have c2' : (s == 4) = false := by simpa using c2
      have H := Lib.hid (show (s == 5) = canR s by unfold canR; rw [Bool.eq_iff_iff]; simp [c1, c2])
      clear c1 c2
      go_enter Tryd.func15, Tryd.ntmps15
      go_wp2
      go_ret
      exact ⟨ret1b H.out, rfl⟩
set_option maxHeartbeats 400000 in
theorem synchronized_any (s : Int) (w : World) : Calls Tryd.prog 16 #[.int .i64 s] w fun r w' => r = .returned (.bool (synced s)) ∧ w = w' := by
  by_cases c1 : 3 ≤ s
  · have H := Lib.hid (show decide (s ≤ 9) = synced s by unfold synced; simp [c1])
    go_enter Tryd.func16, Tryd.ntmps16
    go_wp2
    go_ret
    exact ⟨ret1b H.out, rfl⟩
  · have H := Lib.hid (show false = synced s by unfold synced; simp [c1])
    go_enter Tryd.func16, Tryd.ntmps16
    go_wp2
    go_ret
    exact ⟨ret1b H.out, rfl⟩
set_option maxHeartbeats 400000 in
theorem refSynchronized_any (s : Int) (w : World) : Calls Tryd.prog 17 #[.int .i64 s] w fun r w' => r = .returned (.bool (synced s)) ∧ w = w' := by
  by_cases c1 : 3 ≤ s
  · have H := Lib.hid (show decide (s ≤ 9) = synced s by unfold synced; simp [c1])
    go_enter Tryd.func17, Tryd.ntmps17
    go_wp2
    go_ret
    exact ⟨ret1b H.out, rfl⟩
  · have H := Lib.hid (show false = synced s by unfold synced; simp [c1])
    go_enter Tryd.func17, Tryd.ntmps17
    go_wp2
    go_ret
    exact ⟨ret1b H.out, rfl⟩
set_option maxHeartbeats 400000 in
theorem pick_any (c n : Int) (w : World) (h1 : -9223372036854775808 ≤ c) (h2 : c ≤ 9223372036854775807) (hn : 1 ≤ n) (hn2 : n ≤ 1000) :
    Calls Tryd.prog 9 #[.int .i64 c, .int .i64 n] w fun r w' => r = .returned (.int .i64 (pickV c n)) ∧ w = w' := by
  by_cases c1 : c < 0
  · have H := Lib.hid (show -((c + 1).tmod n) = pickV c n by unfold pickV; rw [if_pos c1, ← Int.neg_tmod, Int.tmod_eq_emod_of_nonneg (by omega)])
    go_enter Tryd.func9, Tryd.ntmps9
    go_wp2
    go_ret
    exact ⟨ret1i H.out, rfl⟩
  · have H := Lib.hid (show c % n = pickV c n by unfold pickV; rw [if_neg c1])
    go_enter Tryd.func9, Tryd.ntmps9
    go_wp2
    go_ret
    exact ⟨ret1i H.out, rfl⟩
theorem pickV_bd (c n : Int) (hn : 1 ≤ n) : 0 ≤ pickV c n ∧ pickV c n < n := by
  unfold pickV; exact ⟨Int.emod_nonneg _ (by omega), Int.emod_lt_of_pos _ (by omega)⟩
end Go.Proofs.YtnchhniadacjfaaDoor
