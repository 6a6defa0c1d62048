/- Plain laws of the checksum. -/
import Derived.Test.YtldmkoicjpkdiaaWirePlain
namespace Go.Proofs.Ytldmkoicjpkdiaa
/-- The sum of the words, by recursion. -/
def sumR : List UInt8 → Nat
  | [] => 0
  | [a] => 256 * a.toNat
  | a :: b :: r => 256 * a.toNat + b.toNat + sumR r
theorem wordsTo_cons (a b : UInt8) (r : List UInt8) (k : Nat) : wordsTo (a :: b :: r) (k + 1) = wordF (a :: b :: r) 0 :: wordsTo r k := by
  unfold wordsTo
  rw [List.range_succ_eq_map, List.map_cons, List.map_map]
  congr 1
theorem sumF_cons (x : Fin 65536) (l : List (Fin 65536)) : sumF (x :: l) = x.val + sumF l := by simp [sumF]
theorem sum16_eq : ∀ (l : List UInt8), sum16 l = sumR l
  | [] => rfl
  | [a] => by
    unfold sum16
    simp [wordsTo, sumF, wordF, wAt, sumR]
  | a :: b :: r => by
    have e : ((a :: b :: r).length + 1) / 2 = (r.length + 1) / 2 + 1 := by simp; omega
    unfold sum16
    rw [e, wordsTo_cons, sumF_cons, sumR, ← sum16_eq r]
    rfl
theorem sumR_append : ∀ (l r : List UInt8), l.length % 2 = 0 → sumR (l ++ r) = sumR l + sumR r
  | [], r, _ => by simp [sumR]
  | [a], r, h => by simp at h
  | a :: b :: l, r, h => by
    have := sumR_append l r (by simp at h; omega)
    simp [sumR, this]
    omega
theorem sumR_be2 (m : Nat) (h : m < 65536) : sumR (be 2 m) = m := by
  simp [be, sumR]
  omega
theorem fold16_pos (n : Nat) (h : 0 < n) : 0 < fold16 n := by unfold fold16; split <;> omega
theorem fold16_rep (n : Nat) : ∃ q, n = fold16 n + 65535 * q := by
  unfold fold16
  split
  · exact ⟨0, by omega⟩
  · exact ⟨(n - 1) / 65535, by omega⟩
theorem fold16_fold (a b : Nat) : fold16 (fold16 a + b) = fold16 (a + b) := by
  obtain ⟨q, hq⟩ := fold16_rep a
  by_cases h : fold16 a + b = 0
  · have ha : a = 0 := by
      by_cases h0 : 0 < a
      · have := fold16_pos a h0; omega
      · omega
    subst ha
    rfl
  · conv => rhs; rw [hq]
    rw [show fold16 a + 65535 * q + b = (fold16 a + b) + 65535 * q by omega, fold16_add _ _ (by omega)]
theorem fold16_fold2 (a b : Nat) : fold16 (fold16 a + fold16 b) = fold16 (a + b) := by
  rw [fold16_fold, Nat.add_comm, fold16_fold, Nat.add_comm]
theorem cksum_le (l : List UInt8) : cksum l ≤ 65535 := by unfold cksum; omega
theorem ck_append (l r : List UInt8) (h : l.length % 2 = 0) : cksum (l ++ r) = 65535 - fold16 (sumR l + sumR r) := by
  unfold cksum; rw [sum16_eq, sumR_append l r h]
theorem ck_be2 (l : List UInt8) (h : l.length % 2 = 0) (m : Nat) (hm : m < 65536) : cksum (l ++ be 2 m) = 65535 - fold16 (fold16 (sumR l) + m) := by
  rw [ck_append l _ h, sumR_be2 m hm, fold16_fold]
theorem ck_eq (l : List UInt8) : cksum l = 65535 - fold16 (sumR l) := by unfold cksum; rw [sum16_eq]
theorem fold_top (x : Nat) (h0 : 0 < x) (h2 : x ≤ 131070) : fold16 x = 65535 ↔ x = 65535 ∨ x = 131070 := by
  unfold fold16; rw [if_neg (by omega)]; omega
theorem ck_zero_iff (l : List UInt8) (h : l.length % 2 = 0) (m : Nat) (hm : m < 65536) : cksum (l ++ be 2 m) = 0 ↔ m = cksum l ∨ (m = 65535 ∧ cksum l = 0) := by
  rw [ck_be2 l h m hm, ck_eq]
  have h1 := fold16_le (sumR l)
  generalize fold16 (sumR l) = f at h1
  by_cases h0 : f + m = 0
  · obtain rfl : f = 0 := by omega
    obtain rfl : m = 0 := by omega
    simp [fold16]
  · have h2 := fold16_le (f + m)
    have h3 := fold_top (f + m) (by omega) (by omega)
    constructor
    · intro hh
      have : fold16 (f + m) = 65535 := by omega
      rcases h3.1 this with h4 | h4 <;> omega
    · intro hh
      have : fold16 (f + m) = 65535 := h3.2 (by omega)
      omega
theorem ck_zero (l : List UInt8) (h : l.length % 2 = 0) : cksum (l ++ be 2 (cksum l)) = 0 :=
  (ck_zero_iff l h _ (by have := cksum_le l; omega)).2 (.inl rfl)
end Go.Proofs.Ytldmkoicjpkdiaa
