/- One generated call, on the timer and on the reference's. -/
import Derived.Test.YtgbmkoodhmchoaaCallRef
import Derived.Test.YtgbmkoodhmchoaaCalls
namespace Go.Proofs.Ytgbmkoodhmchoaa
open Go.RowKit
theorem Rim.alloc {B : Nat} {m : Tm} {w : World} (h : Rim B m w) (o : Obj) : Rim B m (w.alloc o) := h.below ((Below.refl _ _).alloc (Nat.le_refl _) _)
set_option maxHeartbeats 1600000 in
theorem do_any (B : Nat) (m : Tm) (k now n : Int) (hk1 : 0 ≤ k) (hk2 : k ≤ 255) (hn : In64 now) (hok : m.Fit) (w : World) (h : Tim B m w) :
    Calls Try.prog 14 #[.pointer (some ⟨B, 0, none⟩), .agg #[.int .u8 k, .int .i64 now, .int .i64 n]] w fun e w' => e = .returned (.tuple #[]) ∧ Tim B (m.call k now n) w' ∧ Chg B w w' := by
  rcases (show k % 6 = 0 ∨ k % 6 = 1 ∨ k % 6 = 2 ∨ k % 6 = 3 ∨ k % 6 = 4 ∨ k % 6 = 5 by omega) with hk | hk | hk | hk | hk | hk
  · have HM := Lib.hid (show m.call k now n = m.sent now n by unfold Tm.call; rw [if_pos (by omega)])
    go_enter Try.func14, Try.ntmps14
    go_wp2_with fail
    refine (sent_any B m now n _ (by exact h.alloc _)).mono ?_
    rintro e w1 ⟨rfl, hT, hc⟩
    go_wp2_with fail
    go_end0
    exact ⟨rfl, by rw [HM.out]; exact hT, ((Chg.refl _ _).alloc _).trans hc⟩
  · have HM := Lib.hid (show m.call k now n = m.sent now n by unfold Tm.call; rw [if_pos (by omega)])
    go_enter Try.func14, Try.ntmps14
    go_wp2_with fail
    refine (sent_any B m now n _ (by exact h.alloc _)).mono ?_
    rintro e w1 ⟨rfl, hT, hc⟩
    go_wp2_with fail
    go_end0
    exact ⟨rfl, by rw [HM.out]; exact hT, ((Chg.refl _ _).alloc _).trans hc⟩
  · have HM := Lib.hid (show m.call k now n = m.retr by unfold Tm.call; rw [if_neg (by omega), if_pos (by omega)])
    go_enter Try.func14, Try.ntmps14
    go_wp2_with fail
    refine (retr_any B m _ (by exact h.alloc _)).mono ?_
    rintro e w1 ⟨rfl, hT, hc⟩
    go_wp2_with fail
    go_end0
    exact ⟨rfl, by rw [HM.out]; exact hT, ((Chg.refl _ _).alloc _).trans hc⟩
  · have HM := Lib.hid (show m.call k now n = m.acked now n by unfold Tm.call; rw [if_neg (by omega), if_neg (by omega), if_pos (by omega)])
    go_enter Try.func14, Try.ntmps14
    go_wp2_with fail
    refine (acked_any B m now n hn hok _ (by exact h.alloc _)).mono ?_
    rintro e w1 ⟨rfl, hT, hc⟩
    go_wp2_with fail
    go_end0
    exact ⟨rfl, by rw [HM.out]; exact hT, ((Chg.refl _ _).alloc _).trans hc⟩
  · have HM := Lib.hid (show m.call k now n = m.acked now n by unfold Tm.call; rw [if_neg (by omega), if_neg (by omega), if_pos (by omega)])
    go_enter Try.func14, Try.ntmps14
    go_wp2_with fail
    refine (acked_any B m now n hn hok _ (by exact h.alloc _)).mono ?_
    rintro e w1 ⟨rfl, hT, hc⟩
    go_wp2_with fail
    go_end0
    exact ⟨rfl, by rw [HM.out]; exact hT, ((Chg.refl _ _).alloc _).trans hc⟩
  · have HM := Lib.hid (show m.call k now n = m.backoff by unfold Tm.call; rw [if_neg (by omega), if_neg (by omega), if_neg (by omega)])
    go_enter Try.func14, Try.ntmps14
    go_wp2_with fail
    refine (backoff_any B m hok.1 _ (by exact h.alloc _)).mono ?_
    rintro e w1 ⟨rfl, hT, hc⟩
    go_wp2_with fail
    go_end0
    exact ⟨rfl, by rw [HM.out]; exact hT, ((Chg.refl _ _).alloc _).trans hc⟩
set_option maxHeartbeats 1600000 in
theorem did_any (B : Nat) (m : Tm) (k now n : Int) (hk1 : 0 ≤ k) (hk2 : k ≤ 255) (hn : In64 now) (hok : m.cut.Fit) (hb1 : 0 ≤ m.backs) (hb2 : m.backs ≤ 1000) (w : World) (h : Rim B m w) :
    Calls Try.prog 15 #[.pointer (some ⟨B, 0, none⟩), .agg #[.int .u8 k, .int .i64 now, .int .i64 n]] w fun e w' => e = .returned (.tuple #[]) ∧ Rim B (m.rcall k now n) w' ∧ Chg B w w' := by
  rcases (show k % 6 = 0 ∨ k % 6 = 1 ∨ k % 6 = 2 ∨ k % 6 = 3 ∨ k % 6 = 4 ∨ k % 6 = 5 by omega) with hk | hk | hk | hk | hk | hk
  · have HM := Lib.hid (show m.rcall k now n = m.sent now n by unfold Tm.rcall; rw [if_pos (by omega)])
    go_enter Try.func15, Try.ntmps15
    go_wp2_with fail
    refine (rsent_any B m now n _ (by exact h.alloc _)).mono ?_
    rintro e w1 ⟨rfl, hT, hc⟩
    go_wp2_with fail
    go_end0
    exact ⟨rfl, by rw [HM.out]; exact hT, ((Chg.refl _ _).alloc _).trans hc⟩
  · have HM := Lib.hid (show m.rcall k now n = m.sent now n by unfold Tm.rcall; rw [if_pos (by omega)])
    go_enter Try.func15, Try.ntmps15
    go_wp2_with fail
    refine (rsent_any B m now n _ (by exact h.alloc _)).mono ?_
    rintro e w1 ⟨rfl, hT, hc⟩
    go_wp2_with fail
    go_end0
    exact ⟨rfl, by rw [HM.out]; exact hT, ((Chg.refl _ _).alloc _).trans hc⟩
  · have HM := Lib.hid (show m.rcall k now n = m.retr by unfold Tm.rcall; rw [if_neg (by omega), if_pos (by omega)])
    go_enter Try.func15, Try.ntmps15
    go_wp2_with fail
    refine (rretr_any B m _ (by exact h.alloc _)).mono ?_
    rintro e w1 ⟨rfl, hT, hc⟩
    go_wp2_with fail
    go_end0
    exact ⟨rfl, by rw [HM.out]; exact hT, ((Chg.refl _ _).alloc _).trans hc⟩
  · have HM := Lib.hid (show m.rcall k now n = m.acked now n by unfold Tm.rcall; rw [if_neg (by omega), if_neg (by omega), if_pos (by omega)])
    go_enter Try.func15, Try.ntmps15
    go_wp2_with fail
    refine (racked_any B m now n hn hok _ (by exact h.alloc _)).mono ?_
    rintro e w1 ⟨rfl, hT, hc⟩
    go_wp2_with fail
    go_end0
    exact ⟨rfl, by rw [HM.out]; exact hT, ((Chg.refl _ _).alloc _).trans hc⟩
  · have HM := Lib.hid (show m.rcall k now n = m.acked now n by unfold Tm.rcall; rw [if_neg (by omega), if_neg (by omega), if_pos (by omega)])
    go_enter Try.func15, Try.ntmps15
    go_wp2_with fail
    refine (racked_any B m now n hn hok _ (by exact h.alloc _)).mono ?_
    rintro e w1 ⟨rfl, hT, hc⟩
    go_wp2_with fail
    go_end0
    exact ⟨rfl, by rw [HM.out]; exact hT, ((Chg.refl _ _).alloc _).trans hc⟩
  · have HM := Lib.hid (show m.rcall k now n = m.rback by unfold Tm.rcall; rw [if_neg (by omega), if_neg (by omega), if_neg (by omega)])
    go_enter Try.func15, Try.ntmps15
    go_wp2_with fail
    refine (rback_any B m _ (by exact h.alloc _) hb1 hb2).mono ?_
    rintro e w1 ⟨rfl, hT, hc⟩
    go_wp2_with fail
    go_end0
    exact ⟨rfl, by rw [HM.out]; exact hT, ((Chg.refl _ _).alloc _).trans hc⟩
end Go.Proofs.Ytgbmkoodhmchoaa
