/- Pieces offered again and again, in plain terms. -/
import Derived.Test.YtfeppkgcimgkeaaRbPfP
namespace Go.Proofs.Ytfeppkgcimgkeaa
/-- The number of pieces of n bytes of 50. -/
def cntP (n : Nat) : Nat := (50 + n - 1) / n
theorem cntP_bd {n : Nat} (h1 : 1 ≤ n) (h2 : n ≤ 9) : 1 ≤ cntP n ∧ cntP n ≤ 50 ∧ (cntP n - 1) * n < 50 ∧ 50 ≤ cntP n * n ∧ cntP n * n ≤ 60 := by
  unfold cntP
  have h : n = 1 ∨ n = 2 ∨ n = 3 ∨ n = 4 ∨ n = 5 ∨ n = 6 ∨ n = 7 ∨ n = 8 ∨ n = 9 := by omega
  rcases h with rfl | rfl | rfl | rfl | rfl | rfl | rfl | rfl | rfl <;> decide
theorem at_eq (i k n m : Nat) : (i + k) * n % (m * n) = ((i + k) % m) * n := Nat.mul_mod_mul_right n (i + k) m
theorem at_lt {i k n : Nat} (h1 : 1 ≤ n) (h2 : n ≤ 9) : (i + k) % cntP n * n < 50 := by
  obtain ⟨c1, c2, c3, c4, c5⟩ := cntP_bd h1 h2
  have h := Nat.mod_lt (i + k) (show 0 < cntP n by omega)
  have := Nat.mul_le_mul_right n (show (i + k) % cntP n ≤ cntP n - 1 by omega)
  omega
/-- What the inner loop keeps: i pieces have been offered. -/
structure CoI (S : List UInt8) (got : List UInt8) (n k i : Nat) (b : Bx) : Prop where
  pi : PI S 50 b got
  mono : (got.length : Int) ≤ b.nx
  seen : ∀ j, j < i → (j + k) % cntP n = got.length / n → (got.length : Int) < b.nx
theorem CoI.step {S got : List UInt8} {n k i : Nat} {b : Bx} (h : CoI S got n k i b) (h1 : 1 ≤ n) (h2 : n ≤ 9) (hg : got.length < 50) {A : Nat} (hA : A = (i + k) % cntP n * n) {s : List UInt8} (hs : s = (S.drop A).take (min (A + n) 50 - A)) :
    CoI S got n k (i + 1) (b.put A s) ∧ (b.put A s).ring.length = b.ring.length := by
  have hlt := at_lt (i := i) (k := k) h1 h2
  rw [← hA] at hlt
  obtain ⟨p1, p2, p3, p4, p5⟩ := h.pi.put (off := A) (to := min (A + n) 50) (by omega) (by omega) hs
  refine ⟨⟨p1, by have := h.mono; omega, fun j hj e => ?_⟩, p3⟩
  by_cases hji : j < i
  · have := h.seen j hji e; omega
  · obtain rfl : j = i := by omega
    have hm := h.mono
    rcases (show (got.length : Int) < b.nx ∨ b.nx = got.length by omega) with g | g
    · omega
    · have hdm := Nat.div_add_mod got.length n
      have hml := Nat.mod_lt got.length (show 0 < n by omega)
      rw [e] at hA
      have hA2 : A = n * (got.length / n) := by rw [hA, Nat.mul_comm]
      have h6 := h.pi.rd
      have h7 := h.pi.ok.one
      have := p5 (by omega) (by omega) (by omega)
      omega
/-- The piece that is wanted has been offered. -/
theorem CoI.done {S got : List UInt8} {n k i : Nat} {b : Bx} (h : CoI S got n k i b) (h1 : 1 ≤ n) (h2 : n ≤ 9) (hg : got.length < 50) (hi : 50 ≤ i * n) : (got.length : Int) < b.nx := by
  obtain ⟨c1, c2, c3, c4, c5⟩ := cntP_bd h1 h2
  have him : cntP n ≤ i := by
    rcases Nat.lt_or_ge i (cntP n) with g | g
    · have := Nat.mul_le_mul_right n (show i ≤ cntP n - 1 by omega)
      omega
    · exact g
  have ht : got.length / n < cntP n := by
    rw [Nat.div_lt_iff_lt_mul (by omega)]
    omega
  have hk := Nat.mod_lt k (show 0 < cntP n by omega)
  have hj := Nat.mod_lt (got.length / n + (cntP n - k % cntP n)) (show 0 < cntP n by omega)
  refine h.seen ((got.length / n + (cntP n - k % cntP n)) % cntP n) (by omega) ?_
  rw [Nat.mod_add_mod]
  have e : got.length / n + (cntP n - k % cntP n) + k = got.length / n + cntP n * (k / cntP n + 1) := by
    have := Nat.div_add_mod k (cntP n)
    rw [Nat.mul_add, Nat.mul_one]
    omega
  rw [e, Nat.add_mul_mod_self_left, Nat.mod_eq_of_lt ht]
end Go.Proofs.Ytfeppkgcimgkeaa
