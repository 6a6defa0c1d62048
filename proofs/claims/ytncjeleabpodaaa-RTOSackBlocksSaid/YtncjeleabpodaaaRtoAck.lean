/- The timer's Acked, and its methods on nil. -/
import Derived.Test.YtncjeleabpodaaaRtoFns
namespace Go.Proofs.Ytncjeleabpodaaa
open Go.RowKit
/-- A number that an int can be. -/
def In64 (x : Int) : Prop := -9223372036854775808 ≤ x ∧ x ≤ 9223372036854775807
/-- What every timer keeps, with the tick that it holds. -/
def Tm.Fit (m : Tm) : Prop := m.Ok ∧ In64 m.since
theorem tm0_fit : tm0.Fit := ⟨tm0_ok, by unfold In64 tm0; decide⟩
theorem Tm.sent_fit {m : Tm} (h : m.Fit) (now n : Int) (hn : In64 now) : (m.sent now n).Fit := ⟨Tm.sent_ok h.1 now n, by unfold Tm.sent; split; exact h.2; exact hn⟩
theorem Tm.retr_fit {m : Tm} (h : m.Fit) : m.retr.Fit := h
theorem Tm.sample_since (m : Tm) (r : Int) : (m.sample r).since = m.since := by unfold Tm.sample; split <;> rfl
theorem Tm.acked_fit {m : Tm} (h : m.Fit) (now una : Int) : (m.acked now una).Fit := ⟨Tm.acked_ok h.1 now una, by unfold Tm.acked; split; (rw [Tm.sample_since]; exact h.2); exact h.2⟩
theorem Tm.backoff_fit {m : Tm} (h : m.Fit) : m.backoff.Fit := ⟨Tm.backoff_ok h.1, h.2⟩
set_option maxHeartbeats 1600000 in
theorem acked_any (B : Nat) (m : Tm) (now una : Int) (hn : In64 now) (hok : m.Fit) (w : World) (h : Tim B m w) :
    Calls Try.prog 19 #[.pointer (some ⟨B, 0, none⟩), .int .i64 now, .int .i64 una] w fun e w' => e = .returned (.tuple #[]) ∧ Tim B (m.acked now una) w' ∧ Chg B w w' := by
  obtain ⟨c0, c1, c2, c3, c4, c5, c6⟩ := h.cells
  clear c0 c1 c2
  by_cases ht : m.timing = true
  · by_cases hg : m.goal ≤ una
    · have HM := Lib.hid (show m.acked now una = Tm.sample { m with timing := false, backs := 0 } (elapsedV m.since now) by unfold Tm.acked; rw [if_pos ⟨ht, hg⟩])
      rw [ht] at c3
      have f3 := h.free 3
      have f6 := h.free 6
      have hOk : ({ m with timing := false, backs := 0 } : Tm).Ok := by
        obtain ⟨a, b, c, d, e, f⟩ := hok.1
        exact ⟨a, b, c, d, by dsimp only; omega, by dsimp only; omega⟩
      have hEl := fun W => elapsed_any m.since now hok.2.1 hok.2.2 hn.1 hn.2 W
      obtain ⟨r1, r2⟩ := elapsedV_bd m.since now
      have HOK := Lib.hid hOk
      clear hOk
      have hgl : ¬ una < m.goal := by omega
      have hTT := ((h.set 3 (.bool false) { m with timing := false } rfl).set 6 (.int .i64 0) { m with timing := false, backs := 0 } rfl)
      have hCC := (((Chg.refl B w).setCell 3 (.bool false)).setCell 6 (.int .i64 0))
      have HTT := Lib.hid hTT
      have HCC := Lib.hid hCC
      clear hTT hCC
      go_enter Try.func19, Try.ntmps19
      go_wp2_with fail
      obtain ⟨W1, hW1⟩ : ∃ W1, (w.setCell ⟨B, 3, none⟩ (.bool false)).setCell ⟨B, 6, none⟩ (.int .i64 0) = W1 := ⟨_, rfl⟩
      rw [hW1] at HTT HCC ⊢
      have q5 := HTT.out.cells.2.2.2.2.2.1
      have hTd := HTT.out.drew
      clear c3 c4 c5 c6 f3 f6 hW1
      go_region_with (first | (go_at_call 52; refine (hEl _).mono ?_; rintro e w1 ⟨rfl, rfl⟩) | (go_at_call 51; refine (sample_any B _ _ r1 r2 HOK.out _ hTd).mono ?_; rintro e w2 ⟨rfl, hT2, hC2⟩))
      all_goals
        go_end0
        exact ⟨rfl, by rw [HM.out]; exact hT2, HCC.out.drew.trans hC2⟩
    · have HM := Lib.hid (show m.acked now una = m by unfold Tm.acked; rw [if_neg (fun x => hg x.2)])
      rw [ht] at c3
      have hgl : una < m.goal := by omega
      go_enter Try.func19, Try.ntmps19
      go_wp2_with fail
      exact bodyPost_ret (results_none rfl _ _ _) rfl ⟨rfl, by rw [HM.out]; exact h, Chg.refl _ _⟩
  · have HM := Lib.hid (show m.acked now una = m by unfold Tm.acked; rw [if_neg (fun x => ht x.1)])
    have ht' : m.timing = false := by simpa using ht
    rw [ht'] at c3
    clear ht ht'
    go_enter Try.func19, Try.ntmps19
    go_wp2_with fail
    exact bodyPost_ret (results_none rfl _ _ _) rfl ⟨rfl, by rw [HM.out]; exact h, Chg.refl _ _⟩
set_option maxHeartbeats 400000 in
theorem sent_nil (now n : Int) (w : World) : Calls Try.prog 15 #[.pointer none, .int .i64 now, .int .i64 n] w fun e w' => e = .returned (.tuple #[]) ∧ w = w' := by
  go_enter Try.func15, Try.ntmps15
  go_wp2
  exact bodyPost_ret (results_none rfl _ _ _) rfl ⟨rfl, rfl⟩
set_option maxHeartbeats 400000 in
theorem retr_nil (w : World) : Calls Try.prog 40 #[.pointer none] w fun e w' => e = .returned (.tuple #[]) ∧ w = w' := by
  go_enter Try.func40, Try.ntmps40
  go_wp2
  exact bodyPost_ret (results_none rfl _ _ _) rfl ⟨rfl, rfl⟩
set_option maxHeartbeats 400000 in
theorem acked_nil (now n : Int) (w : World) : Calls Try.prog 19 #[.pointer none, .int .i64 now, .int .i64 n] w fun e w' => e = .returned (.tuple #[]) ∧ w = w' := by
  go_enter Try.func19, Try.ntmps19
  go_wp2
  exact bodyPost_ret (results_none rfl _ _ _) rfl ⟨rfl, rfl⟩
set_option maxHeartbeats 400000 in
theorem backoff_nil (w : World) : Calls Try.prog 42 #[.pointer none] w fun e w' => e = .returned (.tuple #[]) ∧ w = w' := by
  go_enter Try.func42, Try.ntmps42
  go_wp2
  exact bodyPost_ret (results_none rfl _ _ _) rfl ⟨rfl, rfl⟩
set_option maxHeartbeats 400000 in
theorem value_nil (w : World) : Calls Try.prog 20 #[.pointer none] w fun e w' => e = .returned (.int .i64 0) ∧ w = w' := by
  go_enter Try.func20, Try.ntmps20
  go_wp2
  go_ret
  exact ⟨rfl, rfl⟩
end Go.Proofs.Ytncjeleabpodaaa
