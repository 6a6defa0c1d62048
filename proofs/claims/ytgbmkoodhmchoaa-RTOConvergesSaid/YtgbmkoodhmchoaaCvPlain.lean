/- RTOConverges in plain terms: constant round trips bring the timer to rest. -/
import Derived.Test.YtgbmkoodhmchoaaRtoKarn
namespace Go.Proofs.Ytgbmkoodhmchoaa
/-- The timer and the tick after k round trips of n ticks. -/
def conv (m : Tm) (n : Int) : Nat → Tm × Int
  | 0 => (m, 9000)
  | k + 1 => (((conv m n k).1.sent (conv m n k).2 (1000 + k)).acked ((conv m n k).2 + n) (1000 + k), (conv m n k).2 + n)
theorem conv_now (m : Tm) {n : Int} (h1 : 1 ≤ n) (h2 : n ≤ 200) : ∀ k, 9000 ≤ (conv m n k).2 ∧ (conv m n k).2 ≤ 9000 + 200 * k
  | 0 => by simp [conv]
  | k + 1 => by
    obtain ⟨a, b⟩ := conv_now m h1 h2 k
    show 9000 ≤ (conv m n k).2 + n ∧ (conv m n k).2 + n ≤ 9000 + 200 * ((k + 1 : Nat) : Int)
    omega
theorem conv_fit {m : Tm} (h : m.Fit) {n : Int} (h1 : 1 ≤ n) (h2 : n ≤ 200) : ∀ k, k ≤ 120 → (conv m n k).1.Fit
  | 0, _ => h
  | k + 1, hk => by
    obtain ⟨a, b⟩ := conv_now m h1 h2 k
    exact Tm.acked_fit (Tm.sent_fit (conv_fit h h1 h2 k (by omega)) _ _ (by unfold In64; omega)) _ _
theorem elapsedV_add (s : Int) {n : Int} (h1 : 1 ≤ n) (h2 : n ≤ 200) : elapsedV s (s + n) = n := by
  unfold elapsedV
  rw [if_neg (by omega), if_pos (by omega)]; omega
theorem Tm.trip_step {m : Tm} (h : m.timing = false) (s g : Int) {n : Int} (h1 : 1 ≤ n) (h2 : n ≤ 200) :
    (m.sent s g).acked (s + n) g = Tm.sample { m with timing := false, goal := g, since := s, backs := 0 } n := by
  rw [Tm.round h, elapsedV_add s h1 h2]
def bA : Nat → Nat × Nat
  | 0 => (8000, 4003)
  | k + 1 => ((bA k).1 - (bA k).1 / 8, (bA k).2 - (bA k).2 / 4 + (bA k).1 / 8)
def bB : Nat → Nat × Nat
  | 0 => (8000, 4003)
  | k + 1 => ((bB k).1 - ((bB k).1 + 7) / 8, (bB k).2 - (bB k).2 / 4 + ((bB k).1 + 7) / 8)
theorem bA_end : (bA 80).1 ≤ 7 ∧ (bA 80).2 ≤ 3 := by decide +kernel
theorem bB_end : (bB 80).1 = 0 ∧ (bB 80).2 ≤ 3 := by decide +kernel
def Calm (m : Tm) (n : Int) : Prop := m.had = true ∧ m.timing = false ∧ m.backs = 0 ∧ 8 * n ≤ m.trip ∧ m.trip ≤ 8 * n + 7 ∧ 0 ≤ m.dev ∧ m.dev ≤ 3
theorem Tm.sample_had {m : Tm} (h : m.had = true) (r : Int) : m.sample r = { m with trip := m.trip + (r - m.trip / 8), dev := m.dev + (max (r - m.trip / 8) (-(r - m.trip / 8)) - m.dev / 4) } := by
  unfold Tm.sample; rw [if_pos h]
theorem Calm.step {m : Tm} {n : Int} (h : Calm m n) (s g : Int) (h1 : 1 ≤ n) (h2 : n ≤ 200) : Calm ((m.sent s g).acked (s + n) g) n ∧ ((m.sent s g).acked (s + n) g).dev = m.dev ∧ ((m.sent s g).acked (s + n) g).trip = m.trip := by
  obtain ⟨a, b, c, d, e, f, i⟩ := h
  rw [Tm.trip_step b s g h1 h2, Tm.sample_had (by exact a)]
  unfold Calm
  dsimp only
  refine ⟨⟨a, rfl, rfl, ?_, ?_, ?_, ?_⟩, ?_, ?_⟩ <;> omega
theorem Calm.value {m : Tm} {n : Int} (h : Calm m n) (h1 : 1 ≤ n) (h2 : n ≤ 200) : m.value = max (n + max m.dev 1) 4 := by
  obtain ⟨a, b, c, d, e, f, i⟩ := h
  unfold Tm.value Tm.base
  rw [if_pos a, c]
  have : (2 : Int) ^ (0 : Int).toNat = 1 := by decide
  rw [this]; omega
theorem conv_A {m : Tm} {n : Int} (h1 : 1 ≤ n) (h2 : n ≤ 200) (ho : m.Ok) (hh : m.had = true) (hi : m.timing = false) (hx : 8 * n ≤ m.trip) :
    ∀ k, (conv m n k).1.had = true ∧ (conv m n k).1.timing = false ∧ 8 * n ≤ (conv m n k).1.trip ∧ (conv m n k).1.trip ≤ 8 * n + (bA k).1 ∧ 0 ≤ (conv m n k).1.dev ∧ (conv m n k).1.dev ≤ (bA k).2
  | 0 => by
    obtain ⟨a, b, c, d, e, f⟩ := ho
    show m.had = true ∧ m.timing = false ∧ 8 * n ≤ m.trip ∧ m.trip ≤ 8 * n + ((8000 : Nat) : Int) ∧ 0 ≤ m.dev ∧ m.dev ≤ ((4003 : Nat) : Int)
    refine ⟨hh, hi, hx, ?_, c, ?_⟩ <;> omega
  | k + 1 => by
    obtain ⟨a, b, c, d, e, f⟩ := conv_A h1 h2 ho hh hi hx k
    show (((conv m n k).1.sent (conv m n k).2 (1000 + k)).acked ((conv m n k).2 + n) (1000 + k)).had = true ∧ (((conv m n k).1.sent (conv m n k).2 (1000 + k)).acked ((conv m n k).2 + n) (1000 + k)).timing = false ∧ 8 * n ≤ (((conv m n k).1.sent (conv m n k).2 (1000 + k)).acked ((conv m n k).2 + n) (1000 + k)).trip ∧ (((conv m n k).1.sent (conv m n k).2 (1000 + k)).acked ((conv m n k).2 + n) (1000 + k)).trip ≤ 8 * n + (((bA k).1 - (bA k).1 / 8 : Nat) : Int) ∧ 0 ≤ (((conv m n k).1.sent (conv m n k).2 (1000 + k)).acked ((conv m n k).2 + n) (1000 + k)).dev ∧ (((conv m n k).1.sent (conv m n k).2 (1000 + k)).acked ((conv m n k).2 + n) (1000 + k)).dev ≤ (((bA k).2 - (bA k).2 / 4 + (bA k).1 / 8 : Nat) : Int)
    generalize (conv m n k).2 = s
    generalize (conv m n k).1 = t at *
    generalize (bA k).1 = X at *
    generalize (bA k).2 = V at *
    rw [Tm.trip_step b s _ h1 h2, Tm.sample_had (by exact a)]
    dsimp only
    refine ⟨a, rfl, ?_, ?_, ?_, ?_⟩ <;> omega
theorem conv_B {m : Tm} {n : Int} (h1 : 1 ≤ n) (h2 : n ≤ 200) (ho : m.Ok) (hh : m.had = true) (hi : m.timing = false) (hx : m.trip ≤ 8 * n) :
    ∀ k, (conv m n k).1.had = true ∧ (conv m n k).1.timing = false ∧ (conv m n k).1.trip ≤ 8 * n ∧ 8 * n ≤ (conv m n k).1.trip + (bB k).1 ∧ 0 ≤ (conv m n k).1.dev ∧ (conv m n k).1.dev ≤ (bB k).2
  | 0 => by
    obtain ⟨a, b, c, d, e, f⟩ := ho
    show m.had = true ∧ m.timing = false ∧ m.trip ≤ 8 * n ∧ 8 * n ≤ m.trip + ((8000 : Nat) : Int) ∧ 0 ≤ m.dev ∧ m.dev ≤ ((4003 : Nat) : Int)
    refine ⟨hh, hi, hx, ?_, c, ?_⟩ <;> omega
  | k + 1 => by
    obtain ⟨a, b, c, d, e, f⟩ := conv_B h1 h2 ho hh hi hx k
    show (((conv m n k).1.sent (conv m n k).2 (1000 + k)).acked ((conv m n k).2 + n) (1000 + k)).had = true ∧ (((conv m n k).1.sent (conv m n k).2 (1000 + k)).acked ((conv m n k).2 + n) (1000 + k)).timing = false ∧ (((conv m n k).1.sent (conv m n k).2 (1000 + k)).acked ((conv m n k).2 + n) (1000 + k)).trip ≤ 8 * n ∧ 8 * n ≤ (((conv m n k).1.sent (conv m n k).2 (1000 + k)).acked ((conv m n k).2 + n) (1000 + k)).trip + (((bB k).1 - ((bB k).1 + 7) / 8 : Nat) : Int) ∧ 0 ≤ (((conv m n k).1.sent (conv m n k).2 (1000 + k)).acked ((conv m n k).2 + n) (1000 + k)).dev ∧ (((conv m n k).1.sent (conv m n k).2 (1000 + k)).acked ((conv m n k).2 + n) (1000 + k)).dev ≤ (((bB k).2 - (bB k).2 / 4 + ((bB k).1 + 7) / 8 : Nat) : Int)
    generalize (conv m n k).2 = s
    generalize (conv m n k).1 = t at *
    generalize (bB k).1 = X at *
    generalize (bB k).2 = V at *
    rw [Tm.trip_step b s _ h1 h2, Tm.sample_had (by exact a)]
    dsimp only
    refine ⟨a, rfl, ?_, ?_, ?_, ?_⟩ <;> omega
/-- conv from its first round on. -/
theorem conv_backs {m : Tm} {n : Int} (h1 : 1 ≤ n) (h2 : n ≤ 200) (k : Nat) (hi : (conv m n k).1.timing = false) : (conv m n (k + 1)).1.backs = 0 := by
  show (((conv m n k).1.sent (conv m n k).2 (1000 + k)).acked ((conv m n k).2 + n) (1000 + k)).backs = 0
  rw [Tm.trip_step hi _ _ h1 h2]
  unfold Tm.sample; split <;> rfl
theorem conv_calm_on {m : Tm} {n : Int} (h1 : 1 ≤ n) (h2 : n ≤ 200) (j : Nat) (h : Calm (conv m n j).1 n) : ∀ k, Calm (conv m n (j + k)).1 n
  | 0 => h
  | k + 1 => ((conv_calm_on h1 h2 j h k).step _ _ h1 h2).1
theorem conv_calm_had {m : Tm} {n : Int} (h1 : 1 ≤ n) (h2 : n ≤ 200) (ho : m.Ok) (hh : m.had = true) (hi : m.timing = false) : Calm (conv m n 80).1 n := by
  have hb : (conv m n 80).1.backs = 0 := by
    refine conv_backs h1 h2 79 ?_
    by_cases hx : 8 * n ≤ m.trip
    · exact (conv_A h1 h2 ho hh hi hx 79).2.1
    · exact (conv_B h1 h2 ho hh hi (by omega) 79).2.1
  by_cases hx : 8 * n ≤ m.trip
  · obtain ⟨a, b, c, d, e, f⟩ := conv_A h1 h2 ho hh hi hx 80
    have := bA_end
    exact ⟨a, b, hb, c, by omega, e, by omega⟩
  · obtain ⟨a, b, c, d, e, f⟩ := conv_B h1 h2 ho hh hi (by omega) 80
    have := bB_end
    exact ⟨a, b, hb, by omega, by omega, e, by omega⟩
/-- A timer without a sample: the first round trip gives it one; its further course is that of a timer that has one. -/
theorem bC_step {m : Tm} {n : Int} (h1 : 1 ≤ n) (h2 : n ≤ 200) (hh : m.had = false) (hi : m.timing = false) :
    ∀ k, (conv m n (k + 1)).1.had = true ∧ (conv m n (k + 1)).1.timing = false ∧ 8 * n ≤ (conv m n (k + 1)).1.trip ∧ (conv m n (k + 1)).1.trip ≤ 8 * n + (bA k).1 ∧ 0 ≤ (conv m n (k + 1)).1.dev ∧ (conv m n (k + 1)).1.dev ≤ (bA k).2
  | 0 => by
    show ((m.sent 9000 (1000 + (0 : Nat))).acked (9000 + n) (1000 + (0 : Nat))).had = true ∧ ((m.sent 9000 (1000 + (0 : Nat))).acked (9000 + n) (1000 + (0 : Nat))).timing = false ∧ 8 * n ≤ ((m.sent 9000 (1000 + (0 : Nat))).acked (9000 + n) (1000 + (0 : Nat))).trip ∧ ((m.sent 9000 (1000 + (0 : Nat))).acked (9000 + n) (1000 + (0 : Nat))).trip ≤ 8 * n + ((8000 : Nat) : Int) ∧ 0 ≤ ((m.sent 9000 (1000 + (0 : Nat))).acked (9000 + n) (1000 + (0 : Nat))).dev ∧ ((m.sent 9000 (1000 + (0 : Nat))).acked (9000 + n) (1000 + (0 : Nat))).dev ≤ ((4003 : Nat) : Int)
    rw [Tm.trip_step hi _ _ h1 h2]
    unfold Tm.sample
    rw [if_neg (by dsimp only; rw [hh]; decide)]
    dsimp only
    refine ⟨rfl, rfl, ?_, ?_, ?_, ?_⟩ <;> omega
  | k + 1 => by
    obtain ⟨a, b, c, d, e, f⟩ := bC_step h1 h2 hh hi k
    show (((conv m n (k + 1)).1.sent (conv m n (k + 1)).2 (1000 + (k + 1 : Nat))).acked ((conv m n (k + 1)).2 + n) (1000 + (k + 1 : Nat))).had = true ∧ (((conv m n (k + 1)).1.sent (conv m n (k + 1)).2 (1000 + (k + 1 : Nat))).acked ((conv m n (k + 1)).2 + n) (1000 + (k + 1 : Nat))).timing = false ∧ 8 * n ≤ (((conv m n (k + 1)).1.sent (conv m n (k + 1)).2 (1000 + (k + 1 : Nat))).acked ((conv m n (k + 1)).2 + n) (1000 + (k + 1 : Nat))).trip ∧ (((conv m n (k + 1)).1.sent (conv m n (k + 1)).2 (1000 + (k + 1 : Nat))).acked ((conv m n (k + 1)).2 + n) (1000 + (k + 1 : Nat))).trip ≤ 8 * n + (((bA k).1 - (bA k).1 / 8 : Nat) : Int) ∧ 0 ≤ (((conv m n (k + 1)).1.sent (conv m n (k + 1)).2 (1000 + (k + 1 : Nat))).acked ((conv m n (k + 1)).2 + n) (1000 + (k + 1 : Nat))).dev ∧ (((conv m n (k + 1)).1.sent (conv m n (k + 1)).2 (1000 + (k + 1 : Nat))).acked ((conv m n (k + 1)).2 + n) (1000 + (k + 1 : Nat))).dev ≤ (((bA k).2 - (bA k).2 / 4 + (bA k).1 / 8 : Nat) : Int)
    generalize (conv m n (k + 1)).2 = s
    generalize (conv m n (k + 1)).1 = t at *
    generalize (bA k).1 = X at *
    generalize (bA k).2 = V at *
    rw [Tm.trip_step b s _ h1 h2, Tm.sample_had (by exact a)]
    dsimp only
    refine ⟨a, rfl, ?_, ?_, ?_, ?_⟩ <;> omega
theorem conv_calm {m : Tm} {n : Int} (h1 : 1 ≤ n) (h2 : n ≤ 200) (ho : m.Ok) (hi : m.timing = false) : Calm (conv m n 120).1 n := by
  by_cases hh : m.had = true
  · exact conv_calm_on h1 h2 80 (conv_calm_had h1 h2 ho hh hi) 40
  · have hh' : m.had = false := by simpa using hh
    obtain ⟨a, b, c, d, e, f⟩ := bC_step h1 h2 hh' hi 80
    have := bA_end
    have hb : (conv m n 81).1.backs = 0 := conv_backs h1 h2 80 (bC_step h1 h2 hh' hi 79).2.1
    rw [show 80 + 1 = 81 from rfl] at a b c d e f
    exact conv_calm_on h1 h2 81 ⟨a, b, hb, c, by omega, e, by omega⟩ 39
/-- What RTOConverges asks. -/
theorem conv_said {m : Tm} {n : Int} (h1 : 1 ≤ n) (h2 : n ≤ 200) (ho : m.Ok) (hi : m.timing = false) (s g : Int) :
    (((conv m n 120).1.sent s g).acked (s + n) g).value = (conv m n 120).1.value ∧ n ≤ (conv m n 120).1.value ∧ 4 ≤ (conv m n 120).1.value ∧ (conv m n 120).1.value ≤ n + 3 := by
  have hc := conv_calm h1 h2 ho hi
  obtain ⟨c1, c2, c3⟩ := hc.step s g h1 h2
  rw [c1.value h1 h2, hc.value h1 h2, c2]
  obtain ⟨_, _, _, _, _, _, _⟩ := hc
  omega
end Go.Proofs.Ytgbmkoodhmchoaa
