/- Plain laws: the checksum of a string whose words are exchanged, of one with zeros behind it, of a concatenation. -/
import Derived.Test.YtldmkoicjpkdiaaWireCkPlain
namespace Go.Proofs.Ytldmkoicjpkdiaa
def wt (i : Nat) : Nat := if i % 2 = 0 then 256 else 1
theorem wt_step (i : Nat) : wt (i + 2) = wt i := by unfold wt; rw [Nat.add_mod_right]
theorem sumR_set : ∀ (l : List UInt8) (i : Nat) (c : UInt8), i < l.length → sumR (l.set i c) + wt i * (l.getD i 0).toNat = sumR l + wt i * c.toNat
  | [], i, c, h => by simp at h
  | [a], i, c, h => by
    obtain rfl : i = 0 := by simp at h; omega
    simp [sumR, wt]
    omega
  | a :: b :: l, 0, c, h => by simp [sumR, wt]; omega
  | a :: b :: l, 1, c, h => by simp [sumR, wt]; omega
  | a :: b :: l, i + 2, c, h => by
    have ih := sumR_set l i c (by simp at h; omega)
    rw [wt_step]
    simp only [List.set_cons_succ, sumR, List.getD_cons_succ]
    omega
theorem getD_set_same (l : List UInt8) (i : Nat) (c : UInt8) (h : i < l.length) : (l.set i c).getD i 0 = c := by
  simp [List.getD_eq_getElem?_getD, h]
theorem getD_set_other (l : List UInt8) (i j : Nat) (c : UInt8) (h : i ≠ j) : (l.set i c).getD j 0 = l.getD j 0 := by
  simp [List.getD_eq_getElem?_getD, h]
/-- Exchange the bytes at i and k. -/
def swap (l : List UInt8) (i k : Nat) : List UInt8 := (l.set i (l.getD k 0)).set k (l.getD i 0)
theorem swap_length (l : List UInt8) (i k : Nat) : (swap l i k).length = l.length := by simp [swap]
theorem sumR_swap (l : List UInt8) (i k : Nat) (hi : i < l.length) (hk : k < l.length) (hp : i % 2 = k % 2) : sumR (swap l i k) = sumR l := by
  have h1 := sumR_set l i (l.getD k 0) hi
  have h2 := sumR_set (l.set i (l.getD k 0)) k (l.getD i 0) (by simpa using hk)
  have hw : wt i = wt k := by unfold wt; rw [hp]
  unfold swap
  by_cases e : i = k
  · subst e
    rw [getD_set_same _ _ _ hi] at h2
    omega
  · rw [getD_set_other _ _ _ _ e] at h2
    rw [hw] at h1
    omega
theorem ck_swap (l : List UInt8) (i k : Nat) (hi : i + 1 < l.length) (hk : k + 1 < l.length) (hp : i % 2 = k % 2) : cksum (swap (swap l i k) (i + 1) (k + 1)) = cksum l := by
  rw [ck_eq, ck_eq, sumR_swap _ _ _ (by rw [swap_length]; omega) (by rw [swap_length]; omega) (by omega), sumR_swap _ _ _ (by omega) (by omega) hp]
theorem sumR_zeros : ∀ (z : Nat), sumR (List.replicate z 0) = 0
  | 0 => rfl
  | 1 => by simp [sumR]
  | z + 2 => by simp [List.replicate_succ, sumR, sumR_zeros z]
theorem ck_zeros (l : List UInt8) (h : l.length % 2 = 0) (z : Nat) : cksum (l ++ List.replicate z 0) = cksum l := by
  rw [ck_append l _ h, sumR_zeros, ck_eq]; rfl
theorem ck_split (l : List UInt8) (i : Nat) (h : i % 2 = 0) (hi : i ≤ l.length) :
    cksum (be 2 (65535 - cksum (l.take i)) ++ be 2 (65535 - cksum (l.drop i))) = cksum l := by
  have e1 : 65535 - cksum (l.take i) = fold16 (sumR (l.take i)) := by rw [ck_eq]; have := fold16_le (sumR (l.take i)); omega
  have e2 : 65535 - cksum (l.drop i) = fold16 (sumR (l.drop i)) := by rw [ck_eq]; have := fold16_le (sumR (l.drop i)); omega
  have h1 := fold16_le (sumR (l.take i))
  have h2 := fold16_le (sumR (l.drop i))
  rw [e1, e2, ck_append _ _ (by rw [be_length]), sumR_be2 _ (by omega), sumR_be2 _ (by omega), fold16_fold2, ← sumR_append _ _ (by rw [List.length_take]; omega), List.take_append_drop, ck_eq]
end Go.Proofs.Ytldmkoicjpkdiaa
