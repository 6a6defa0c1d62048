/- Calls on the timer in plain terms: its bounds, shifted times, the reference's timer. -/
import Derived.Test.YtgbmkoodhmchoaaRtoAck
namespace Go.Proofs.Ytgbmkoodhmchoaa
/-- One generated call. -/
def Tm.call (m : Tm) (k now n : Int) : Tm :=
  if k % 6 = 0 ∨ k % 6 = 1 then m.sent now n else if k % 6 = 2 then m.retr else if k % 6 = 3 ∨ k % 6 = 4 then m.acked now n else m.backoff
theorem Tm.call_fit {m : Tm} (h : m.Fit) (k n : Int) {now : Int} (hn : In64 now) : (m.call k now n).Fit := by
  unfold Tm.call
  split
  · exact Tm.sent_fit h _ _ hn
  · split
    · exact Tm.retr_fit h
    · split
      · exact Tm.acked_fit h _ _
      · exact Tm.backoff_fit h
theorem pow_bd {k : Int} (hk1 : 0 ≤ k) (hk2 : k ≤ 8) : ∃ p : Int, (2 : Int) ^ k.toNat = p ∧ 1 ≤ p ∧ p ≤ 256 := by
  rcases (show k = 0 ∨ k = 1 ∨ k = 2 ∨ k = 3 ∨ k = 4 ∨ k = 5 ∨ k = 6 ∨ k = 7 ∨ k = 8 by omega) with rfl | rfl | rfl | rfl | rfl | rfl | rfl | rfl | rfl <;> exact ⟨_, rfl, by decide, by decide⟩
theorem Tm.value_bd {m : Tm} (h : m.Ok) : 4 ≤ m.value ∧ m.value ≤ 240 := by
  obtain ⟨_, _, _, _, e, f⟩ := h
  obtain ⟨b1, b2⟩ := m.base_bd
  obtain ⟨p, hp, p1, p2⟩ := pow_bd e f
  unfold Tm.value
  rw [hp]
  have : m.base * 1 ≤ m.base * p := Int.mul_le_mul_of_nonneg_left p1 (by omega)
  omega
theorem Tm.value_back {m : Tm} (h : m.Ok) : m.backoff.value = min (2 * m.value) 240 := by
  obtain ⟨_, _, _, _, e, f⟩ := h
  obtain ⟨b1, b2⟩ := m.base_bd
  show min (m.base * 2 ^ (min (m.backs + 1) 8).toNat) 240 = min (2 * min (m.base * 2 ^ m.backs.toNat) 240) 240
  generalize m.base = b at *
  generalize m.backs = k at *
  rcases (show k = 0 ∨ k = 1 ∨ k = 2 ∨ k = 3 ∨ k = 4 ∨ k = 5 ∨ k = 6 ∨ k = 7 ∨ k = 8 by omega) with rfl | rfl | rfl | rfl | rfl | rfl | rfl | rfl | rfl
  · show min (b * 2 ^ 1) 240 = min (2 * min (b * 2 ^ 0) 240) 240; omega
  · show min (b * 2 ^ 2) 240 = min (2 * min (b * 2 ^ 1) 240) 240; omega
  · show min (b * 2 ^ 3) 240 = min (2 * min (b * 2 ^ 2) 240) 240; omega
  · show min (b * 2 ^ 4) 240 = min (2 * min (b * 2 ^ 3) 240) 240; omega
  · show min (b * 2 ^ 5) 240 = min (2 * min (b * 2 ^ 4) 240) 240; omega
  · show min (b * 2 ^ 6) 240 = min (2 * min (b * 2 ^ 5) 240) 240; omega
  · show min (b * 2 ^ 7) 240 = min (2 * min (b * 2 ^ 6) 240) 240; omega
  · show min (b * 2 ^ 8) 240 = min (2 * min (b * 2 ^ 7) 240) 240; omega
  · show min (b * 2 ^ 8) 240 = min (2 * min (b * 2 ^ 8) 240) 240; omega
theorem Tm.value_sent (m : Tm) (s n : Int) : (m.sent s n).value = m.value := by unfold Tm.sent; split <;> rfl
theorem Tm.value_retr (m : Tm) : m.retr.value = m.value := rfl
theorem Tm.call_low (m : Tm) {k : Int} (s n : Int) (h : k % 6 < 3) : (m.call k s n).value = m.value := by
  unfold Tm.call
  by_cases c : k % 6 = 0 ∨ k % 6 = 1
  · rw [if_pos c]; exact m.value_sent s n
  · rw [if_neg c, if_pos (by omega)]; exact m.value_retr
theorem Tm.call_five {m : Tm} (hm : m.Ok) {k : Int} (s n : Int) (h : k % 6 = 5) : (m.call k s n).value = min (2 * m.value) 240 := by
  unfold Tm.call
  rw [if_neg (by omega), if_neg (by omega), if_neg (by omega)]
  exact Tm.value_back hm
/-- The same timer, fed with later times. -/
def Shift (d : Int) (m u : Tm) : Prop :=
  u.had = m.had ∧ u.trip = m.trip ∧ u.dev = m.dev ∧ u.timing = m.timing ∧ u.goal = m.goal ∧ u.backs = m.backs ∧ (m.timing = true → u.since = m.since + d)
theorem Shift.refl0 (d : Int) : Shift d tm0 tm0 := ⟨rfl, rfl, rfl, rfl, rfl, rfl, fun h => absurd h (show ¬ (false = true) by decide)⟩
theorem elapsedV_shift (s n d : Int) : elapsedV (s + d) (n + d) = elapsedV s n := by
  unfold elapsedV
  by_cases c : n ≤ s
  · rw [if_pos c, if_pos (by omega)]
  · rw [if_neg c, if_neg (by omega)]
    by_cases e : n - s < 1000
    · rw [if_pos e, if_pos (by omega)]; omega
    · rw [if_neg e, if_neg (by omega)]
theorem Shift.value {d : Int} {m u : Tm} (h : Shift d m u) : u.value = m.value := by
  obtain ⟨a, b, c, e, f, g, i⟩ := h
  unfold Tm.value Tm.base
  rw [a, b, c, g]
theorem Shift.call {d : Int} {m u : Tm} (h : Shift d m u) (k now n : Int) : Shift d (m.call k now n) (u.call k (now + d) n) := by
  obtain ⟨a, b, c, e, f, g, i⟩ := h
  unfold Tm.call
  by_cases k0 : k % 6 = 0 ∨ k % 6 = 1
  · rw [if_pos k0, if_pos k0]
    unfold Tm.sent
    by_cases t : m.timing = true
    · rw [if_pos t, if_pos (by rw [e]; exact t)]
      exact ⟨a, b, c, e, f, g, i⟩
    · rw [if_neg t, if_neg (by rw [e]; exact t)]
      exact ⟨a, b, c, rfl, rfl, g, fun _ => rfl⟩
  · rw [if_neg k0, if_neg k0]
    by_cases k1 : k % 6 = 2
    · rw [if_pos k1, if_pos k1]
      exact ⟨a, b, c, rfl, f, g, fun h => absurd h (show ¬ (false = true) by decide)⟩
    · rw [if_neg k1, if_neg k1]
      by_cases k2 : k % 6 = 3 ∨ k % 6 = 4
      · rw [if_pos k2, if_pos k2]
        unfold Tm.acked
        by_cases t : m.timing = true ∧ m.goal ≤ n
        · rw [if_pos t, if_pos ⟨by rw [e]; exact t.1, by rw [f]; exact t.2⟩, i t.1, elapsedV_shift]
          unfold Tm.sample
          by_cases hh : m.had = true
          · rw [if_pos hh, if_pos (by dsimp only; rw [a]; exact hh)]
            exact ⟨a, by dsimp only; rw [b], by dsimp only; rw [b, c], rfl, f, rfl, fun h => absurd h (show ¬ (false = true) by decide)⟩
          · rw [if_neg hh, if_neg (by dsimp only; rw [a]; exact hh)]
            exact ⟨rfl, rfl, rfl, rfl, f, rfl, fun h => absurd h (show ¬ (false = true) by decide)⟩
        · rw [if_neg t, if_neg (fun x => t ⟨by rw [← e]; exact x.1, by rw [← f]; exact x.2⟩)]
          exact ⟨a, b, c, e, f, g, i⟩
      · rw [if_neg k2, if_neg k2]
        exact ⟨a, b, c, e, f, by show min (u.backs + 1) 8 = min (m.backs + 1) 8; rw [g], i⟩
/-- The reference's timer counts every backoff. -/
def Tm.rback (r : Tm) : Tm := { r with backs := r.backs + 1 }
def Tm.rcall (r : Tm) (k now n : Int) : Tm :=
  if k % 6 = 0 ∨ k % 6 = 1 then r.sent now n else if k % 6 = 2 then r.retr else if k % 6 = 3 ∨ k % 6 = 4 then r.acked now n else r.rback
def Tm.cut (r : Tm) : Tm := { r with backs := min r.backs 8 }
theorem Tm.cut_call (r : Tm) (k now n : Int) (h : 0 ≤ r.backs) : (r.rcall k now n).cut = r.cut.call k now n := by
  unfold Tm.rcall Tm.call
  by_cases k0 : k % 6 = 0 ∨ k % 6 = 1
  · rw [if_pos k0, if_pos k0]
    unfold Tm.sent
    by_cases t : r.timing = true
    · rw [if_pos t, if_pos (show r.cut.timing = true from t)]
    · rw [if_neg t, if_neg (show ¬ r.cut.timing = true from t)]; rfl
  · rw [if_neg k0, if_neg k0]
    by_cases k1 : k % 6 = 2
    · rw [if_pos k1, if_pos k1]; rfl
    · rw [if_neg k1, if_neg k1]
      by_cases k2 : k % 6 = 3 ∨ k % 6 = 4
      · rw [if_pos k2, if_pos k2]
        unfold Tm.acked
        by_cases t : r.timing = true ∧ r.goal ≤ n
        · rw [if_pos t, if_pos (show r.cut.timing = true ∧ r.cut.goal ≤ n from t)]
          show (Tm.sample { r with timing := false, backs := 0 } (elapsedV r.since now)).cut = Tm.sample { r with timing := false, backs := 0 } (elapsedV r.since now)
          unfold Tm.sample
          by_cases hh : r.had = true
          · rw [if_pos hh]; rfl
          · rw [if_neg hh]; rfl
        · rw [if_neg t, if_neg (show ¬ (r.cut.timing = true ∧ r.cut.goal ≤ n) from t)]
      · rw [if_neg k2, if_neg k2]
        show ({ r with backs := min (r.backs + 1) 8 } : Tm) = { r with backs := min (min r.backs 8 + 1) 8 }
        rw [show min (min r.backs 8 + 1) 8 = min (r.backs + 1) 8 by omega]
theorem Tm.rcall_backs (r : Tm) (k now n : Int) (h : 0 ≤ r.backs) : 0 ≤ (r.rcall k now n).backs ∧ (r.rcall k now n).backs ≤ r.backs + 1 := by
  unfold Tm.rcall
  split
  · unfold Tm.sent; split <;> (constructor <;> (try dsimp only) <;> omega)
  · split
    · unfold Tm.retr; dsimp only; omega
    · split
      · unfold Tm.acked; split
        · unfold Tm.sample; split <;> (dsimp only; omega)
        · omega
      · unfold Tm.rback; dsimp only; omega
/-- The reference's value: as many doublings as there were backoffs. -/
theorem Tm.cut_value (r : Tm) (h : 0 ≤ r.backs) : r.cut.value = min (r.base * 2 ^ r.backs.toNat) 240 := by
  show min (r.base * 2 ^ (min r.backs 8).toNat) 240 = min (r.base * 2 ^ r.backs.toNat) 240
  by_cases c : r.backs ≤ 8
  · rw [show min r.backs 8 = r.backs by omega]
  · rw [show min r.backs 8 = 8 by omega]
    obtain ⟨b1, b2⟩ := r.base_bd
    obtain ⟨j, hj⟩ : ∃ j : Nat, r.backs.toNat = 8 + j := ⟨r.backs.toNat - 8, by omega⟩
    rw [hj, Int.pow_add]
    have hp : (1 : Int) ≤ 2 ^ j := by
      have := Nat.one_le_two_pow (n := j)
      have e : ((2 ^ j : Nat) : Int) = (2 : Int) ^ j := by simp
      omega
    have h256 : (2 : Int) ^ (8 : Int).toNat = 256 := by decide
    have h8 : (2 : Int) ^ 8 = 256 := by decide
    rw [h256, h8]
    have : r.base * 256 * 1 ≤ r.base * 256 * 2 ^ j := Int.mul_le_mul_of_nonneg_left hp (by omega)
    rw [← Int.mul_assoc]
    omega
/-- The value after j doublings that stop at 240. -/
theorem dbl_step (b : Int) (j : Nat) : min (2 * min (b * 2 ^ j) 240) 240 = min (b * 2 ^ (j + 1)) 240 := by
  rw [Int.pow_succ, ← Int.mul_assoc]
  omega
theorem dbl_top (b : Int) (j k : Nat) (hjk : j ≤ k) (h : 240 ≤ b * 2 ^ j) : min (b * 2 ^ k) 240 = 240 := by
  obtain ⟨i, rfl⟩ : ∃ i, k = j + i := ⟨k - j, by omega⟩
  rw [Int.pow_add, ← Int.mul_assoc]
  have hp : (1 : Int) ≤ 2 ^ i := by
    have := Nat.one_le_two_pow (n := i)
    have e : ((2 ^ i : Nat) : Int) = (2 : Int) ^ i := by simp
    omega
  have : b * 2 ^ j * 1 ≤ b * 2 ^ j * 2 ^ i := Int.mul_le_mul_of_nonneg_left hp (by omega)
  omega
end Go.Proofs.Ytgbmkoodhmchoaa
