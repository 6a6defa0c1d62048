/- Congestion control as plain data, with no program in sight. -/
namespace Go.Proofs.YtnjfpkjfacopkaaDoor
structure Cg where
  mss : Int
  win : Int
  thr : Int
  on : Bool
  pt : Int
def In64 (x : Int) : Prop := -9223372036854775808 ≤ x ∧ x ≤ 9223372036854775807
def cg0 (mss : Int) : Cg := ⟨mss, 2 * mss, 65535, false, 0⟩
def halfV (mss flight : Int) : Int := min (max (flight.tdiv 2) (2 * mss)) 65535
def Cg.lost (c : Cg) (flight next : Int) : Cg := if c.on then c else { c with thr := halfV c.mss flight, win := halfV c.mss flight, on := true, pt := next }
def Cg.timeout (c : Cg) (flight : Int) : Cg := { c with thr := halfV c.mss flight, win := c.mss, on := false, pt := 0 }
def Cg.setMSS (c : Cg) (m : Int) : Cg := if 28 ≤ m ∧ m ≤ 1024 ∧ m < c.mss then { c with mss := m } else c
def avoidV (mss win : Int) : Int := max 1 (mss * mss / win)
def Cg.acked (c : Cg) (n una : Int) : Cg :=
  if c.on then (if c.pt ≤ una then { c with on := false, pt := 0, win := c.thr } else c)
  else if n ≤ 0 then c
  else if c.win < c.thr then { c with win := min (c.win + min n c.mss) 65535 }
  else { c with win := min (c.win + avoidV c.mss c.win) 65535 }
/-- What every state keeps. -/
def Cg.Ok (c : Cg) : Prop := 28 ≤ c.mss ∧ c.mss ≤ 1024 ∧ 28 ≤ c.win ∧ c.win ≤ 65535 ∧ 56 ≤ c.thr ∧ c.thr ≤ 65535 ∧ In64 c.pt ∧ (c.on = false → c.pt = 0)
theorem cg0_ok {m : Int} (h1 : 28 ≤ m) (h2 : m ≤ 1024) : (cg0 m).Ok := by
  unfold Cg.Ok cg0 In64; dsimp only
  refine ⟨h1, h2, ?_, ?_, ?_, ?_, ⟨?_, ?_⟩, fun _ => rfl⟩ <;> omega
theorem halfV_bd {m : Int} (f : Int) (h1 : 28 ≤ m) (h2 : m ≤ 1024) : 56 ≤ halfV m f ∧ halfV m f ≤ 65535 := by unfold halfV; omega
theorem Cg.lost_ok {c : Cg} (h : c.Ok) (f : Int) {n : Int} (hn : In64 n) : (c.lost f n).Ok := by
  unfold Cg.lost
  split
  · exact h
  · obtain ⟨a, b, d, e, f1, g, i, j⟩ := h
    have := halfV_bd f a b
    exact ⟨a, b, by dsimp only; omega, by dsimp only; omega, this.1, this.2, hn, fun h => by cases h⟩
theorem Cg.timeout_ok {c : Cg} (h : c.Ok) (f : Int) : (c.timeout f).Ok := by
  obtain ⟨a, b, d, e, f1, g, i, j⟩ := h
  have := halfV_bd f a b
  exact ⟨a, b, a, by unfold Cg.timeout; dsimp only; omega, this.1, this.2, by unfold Cg.timeout In64; dsimp only; omega, fun _ => rfl⟩
theorem Cg.setMSS_ok {c : Cg} (h : c.Ok) (m : Int) : (c.setMSS m).Ok := by
  unfold Cg.setMSS
  split
  · obtain ⟨a, b, d, e, f1, g, i, j⟩ := h
    rename_i hm
    exact ⟨hm.1, hm.2.1, d, e, f1, g, i, j⟩
  · exact h
theorem avoidV_bd {m w : Int} (h1 : 28 ≤ m) (h2 : m ≤ 1024) (h3 : 28 ≤ w) : 1 ≤ avoidV m w ∧ avoidV m w ≤ 1048576 ∧ 0 ≤ m * m ∧ m * m ≤ 1048576 ∧ 0 ≤ m * m / w ∧ m * m / w ≤ 1048576 := by
  have a : 0 ≤ m * m := Int.mul_nonneg (by omega) (by omega)
  have b : m * m ≤ 1024 * 1024 := Int.mul_le_mul h2 h2 (by omega) (by omega)
  have c : 0 ≤ m * m / w := Int.ediv_nonneg a (by omega)
  have d : m * m / w ≤ m * m := Int.ediv_le_self _ a
  unfold avoidV
  omega
/-- Growth is never more than one segment. -/
theorem avoidV_mss {m w : Int} (h1 : 28 ≤ m) (h3 : 28 ≤ w) (h4 : m ≤ w) : avoidV m w ≤ m := by
  have : m * m / w ≤ m := by
    have h : m * m ≤ m * w := Int.mul_le_mul_of_nonneg_left h4 (by omega)
    have e : m * m / w ≤ m * w / w := Int.ediv_le_ediv (by omega) h
    rw [Int.mul_ediv_cancel _ (by omega)] at e
    exact e
  unfold avoidV; omega
theorem avoidV_half {m w : Int} (h1 : 28 ≤ m) (h4 : 2 * m ≤ w) : avoidV m w < m := by
  have : m * m / w ≤ m / 2 := by
    have h : m * m / w ≤ m * m / (2 * m) := by
      apply Int.le_ediv_of_mul_le (by omega)
      have k : m * m / w * (2 * m) ≤ m * m / w * w := Int.mul_le_mul_of_nonneg_left h4 (Int.ediv_nonneg (Int.mul_nonneg (by omega) (by omega)) (by omega))
      have l : m * m / w * w ≤ m * m := Int.ediv_mul_le _ (by omega)
      omega
    have e : m * m / (2 * m) = m / 2 := by
      rw [Int.mul_comm 2 m]
      exact Int.mul_ediv_mul_of_pos m 2 (by omega)
    omega
  unfold avoidV; omega
theorem Cg.acked_ok {c : Cg} (h : c.Ok) (n una : Int) : (c.acked n una).Ok := by
  obtain ⟨a, b, d, e, f1, g, i, j⟩ := h
  unfold Cg.acked
  split
  · split
    · exact ⟨a, b, by dsimp only; omega, by dsimp only; omega, f1, g, by unfold In64; dsimp only; omega, fun _ => rfl⟩
    · exact ⟨a, b, d, e, f1, g, i, j⟩
  · split
    · exact ⟨a, b, d, e, f1, g, i, j⟩
    · split
      · exact ⟨a, b, by dsimp only; omega, by dsimp only; omega, f1, g, i, j⟩
      · obtain ⟨k, l, _⟩ := avoidV_bd a b d
        exact ⟨a, b, by dsimp only; omega, by dsimp only; omega, f1, g, i, j⟩
end Go.Proofs.YtnjfpkjfacopkaaDoor
