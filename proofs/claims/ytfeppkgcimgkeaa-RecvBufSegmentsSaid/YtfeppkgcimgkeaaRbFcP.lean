/- The first copy wins, in plain terms. -/
import Derived.Test.YtfeppkgcimgkeaaRbCont
import Derived.Test.YtfeppkgcimgkeaaRbNew
namespace Go.Proofs.Ytfeppkgcimgkeaa
theorem gapsF_nil {t a : Int} : gapsF t a [] = one a t := rfl
theorem gapsF_one {t a : Int} {x : Sp} : gapsF t a [x] = if x.2 ≤ a then one a t else if t ≤ x.1 then one a t else one a x.1 ++ one x.2 t := rfl
theorem countF_one (a b : Int) : countF (one a b) = max 0 (b - a) := by
  unfold one
  split
  · show b - a + 0 = _; omega
  · show (0 : Int) = _; omega
theorem countF_append (A B : List Sp) : countF (A ++ B) = countF A + countF B := by
  induction A with
  | nil => show _ = 0 + _; rw [Int.zero_add]; rfl
  | cons x A ih => rw [List.cons_append]; show x.2 - x.1 + countF (A ++ B) = x.2 - x.1 + countF A + countF B; omega
/-- The number of new bytes is the count of the gaps. -/
theorem Bx.putN_eq {b : Bx} (ok : b.Ok) {off : Int} {k : Nat} (h0 : 0 ≤ off) (h1 : off ≤ 1099511627776) (hlt : b.lo off < b.hi off k) : b.putN off k = countF (gapsF (b.hi off k) (b.lo off) b.bl) := by
  have ht := Bx.takes ok h0 hlt
  unfold Bx.putN
  rw [if_neg (by omega), if_neg (by omega)]
  have hg := (gapsL_spec ht).1
  unfold countL
  rw [if_pos hg]
  unfold gapsL
  rw [if_pos ht]
theorem Bx.putN_zero {b : Bx} {off : Int} {k : Nat} (hlt : b.hi off k ≤ b.lo off) : b.putN off k = 0 := by
  unfold Bx.putN
  rw [if_pos hlt]
  exact ite_self _
/-- The first piece. -/
def fc1 (k : Int) (s : List UInt8) : Bx := (bx0 64).put k s
theorem fc0_ok : (bx0 64).Ok := bx0_ok 64 (by omega) (by omega)
theorem fc0_n (k : Int) (n : Nat) (h0 : 0 ≤ k) (h1 : k < 30) (hn : n ≤ 30) : (bx0 64).putN k n = n := by
  have e1 : (bx0 64).lo k = k := by unfold Bx.lo bx0; dsimp only; omega
  have e2 : (bx0 64).hi k n = k + n := by unfold Bx.hi bx0; simp; omega
  by_cases h : n = 0
  · rw [Bx.putN_zero (by omega)]; omega
  · rw [Bx.putN_eq fc0_ok h0 (by omega) (by omega), e1, e2]
    show countF (gapsF (k + n) k []) = _
    rw [gapsF_nil, countF_one]
    omega
/-- What the buffer is behind the first piece. -/
theorem fc1_shape (k : Int) (s : List UInt8) (h0 : 0 ≤ k) (h1 : k < 30) (hn : s.length ≤ 30) :
    (fc1 k s).rd = 0 ∧ (fc1 k s).ring.length = 64 ∧ (((fc1 k s).nx = 0 ∧ (fc1 k s).bl = [(k, k + s.length)] ∧ 0 < k ∧ s ≠ []) ∨ ((fc1 k s).nx = s.length ∧ (fc1 k s).bl = [] ∧ (k = 0 ∨ s = []))) := by
  have e1 : (bx0 64).lo k = k := by unfold Bx.lo bx0; dsimp only; omega
  have e2 : (bx0 64).hi k s.length = k + s.length := by unfold Bx.hi bx0; simp; omega
  obtain ⟨p1, p2, p3, -⟩ := Bx.put_spec fc0_ok s (off := k) h0 (by omega)
  refine ⟨p2, p3, ?_⟩
  unfold fc1
  by_cases h : s = []
  · have e : (bx0 64).put k s = bx0 64 := by
      unfold Bx.put
      rw [if_neg (by omega), if_pos (by rw [e1, e2, h]; simp)]
    rw [e, h]
    exact .inr ⟨rfl, rfl, .inr rfl⟩
  · have hl : 0 < s.length := List.length_pos_iff.2 h
    have e : (bx0 64).put k s = (bx0 64).putP k s (k, k + s.length) := by
      unfold Bx.put
      rw [if_neg (by omega), if_neg (by rw [e1, e2]; omega), e1, e2]
    have ha : addL [] (k, k + (s.length : Int)) = [(k, k + (s.length : Int))] := by
      unfold addL
      rw [if_pos (takesB_iff.2 ⟨rfl, by dsimp only; omega⟩)]
      rfl
    rw [e]
    unfold Bx.putP
    show (joinNx 0 (addL [] _) = 0 ∧ joinBl 0 (addL [] _) = _ ∧ _) ∨ (joinNx 0 (addL [] _) = _ ∧ joinBl 0 (addL [] _) = _ ∧ _)
    rw [ha]
    unfold joinNx joinBl
    dsimp only
    by_cases hk : k = 0
    · rw [if_pos hk, if_pos hk]
      exact .inr ⟨by omega, rfl, .inl hk⟩
    · rw [if_neg hk, if_neg hk]
      exact .inl ⟨rfl, rfl, by omega, h⟩
theorem fc1_ok (k : Int) (s : List UInt8) (h0 : 0 ≤ k) (h1 : k < 30) : (fc1 k s).Ok := (Bx.put_spec fc0_ok s (off := k) h0 (by omega)).1
theorem fc1_n (k at_ : Int) (s : List UInt8) (m : Nat) (h0 : 0 ≤ k) (h1 : k < 30) (hn : s.length ≤ 30) (a0 : 0 ≤ at_) (a1 : at_ < 40) (hm : m ≤ 60) :
    (fc1 k s).putN at_ m = min (m : Int) (64 - at_) - max 0 (min (k + s.length) (at_ + m) - max k at_) := by
  obtain ⟨r, l, h⟩ := fc1_shape k s h0 h1 hn
  have e1 : (fc1 k s).lo at_ = max at_ (fc1 k s).nx := rfl
  have e2 : (fc1 k s).hi at_ m = min (at_ + m) 64 := by unfold Bx.hi; rw [r, l]; omega
  have ok := fc1_ok k s h0 h1
  by_cases hlt : (fc1 k s).hi at_ m ≤ (fc1 k s).lo at_
  · rw [Bx.putN_zero hlt]
    rw [e1, e2] at hlt
    rcases h with ⟨n1, n2, n3, n4⟩ | ⟨n1, n2, n3⟩
    · rw [n1] at hlt; omega
    · rw [n1] at hlt
      rcases n3 with rfl | rfl
      · omega
      · simp at hlt ⊢; omega
  · rw [Bx.putN_eq ok a0 (by omega) (by omega), e1, e2]
    rw [e1, e2] at hlt
    rcases h with ⟨n1, n2, n3, n4⟩ | ⟨n1, n2, n3⟩
    · rw [n1] at hlt ⊢
      have hl : 0 < s.length := List.length_pos_iff.2 n4
      rw [n2, gapsF_one]
      dsimp only
      split
      · rw [countF_one]; omega
      · split
        · rw [countF_one]; omega
        · rw [countF_append, countF_one, countF_one]; omega
    · rw [n1] at hlt ⊢
      rw [n2, gapsF_nil, countF_one]
      rcases n3 with rfl | rfl
      · omega
      · simp at hlt ⊢; omega
def fc2 (k at_ : Int) (s t : List UInt8) : Bx := (fc1 k s).put at_ t
def fc3 (k at_ : Int) (s t : List UInt8) : Bx := if 0 < k then (fc2 k at_ s t).put 0 (List.replicate k.toNat 0) else fc2 k at_ s t
theorem fc2_ok (k at_ : Int) (s t : List UInt8) (h0 : 0 ≤ k) (h1 : k < 30) (a0 : 0 ≤ at_) (a1 : at_ < 40) : (fc2 k at_ s t).Ok := (Bx.put_spec (fc1_ok k s h0 h1) t (off := at_) a0 (by omega)).1
theorem fc3_ok (k at_ : Int) (s t : List UInt8) (h0 : 0 ≤ k) (h1 : k < 30) (a0 : 0 ≤ at_) (a1 : at_ < 40) : (fc3 k at_ s t).Ok := by
  unfold fc3
  split
  · exact (Bx.put_spec (fc2_ok k at_ s t h0 h1 a0 a1) _ (off := 0) (by omega) (by omega)).1
  · exact fc2_ok k at_ s t h0 h1 a0 a1
/-- What is read in the end. -/
theorem fc3_take (k at_ : Int) (s t : List UInt8) (h0 : 0 ≤ k) (h1 : k < 30) (hn : s.length ≤ 30) (a0 : 0 ≤ at_) (a1 : at_ < 40) :
    k + s.length ≤ ((fc3 k at_ s t).takeS 100).length ∧ (((fc3 k at_ s t).takeS 100).drop k.toNat).take s.length = s := by
  obtain ⟨K, rfl⟩ := Int.eq_ofNat_of_zero_le h0
  obtain ⟨a, rfl⟩ := Int.eq_ofNat_of_zero_le a0
  have ok1 := fc1_ok K s h0 h1
  have ok2 := fc2_ok K a s t h0 h1 a0 a1
  have ok3 := fc3_ok K a s t h0 h1 a0 a1
  obtain ⟨-, p2, p3, p4, p5⟩ := Bx.put_spec fc0_ok s (off := (K : Int)) h0 (by omega)
  obtain ⟨-, q2, q3, q4, q5⟩ := Bx.put_spec ok1 t (off := (a : Int)) a0 (by omega)
  have r1 : (fc1 K s).rd = 0 := p2
  have l1 : (fc1 K s).ring.length = 64 := p3
  have r2 : (fc2 K a s t).rd = 0 := q2.trans r1
  have l2 : (fc2 K a s t).ring.length = 64 := q3.trans l1
  have hs1 : ∀ i : Nat, K ≤ i → i < K + s.length → (fc1 K s).has i ∧ (fc1 K s).ring[i % 64]? = s[i - K]? := by
    intro i i1 i2
    refine ⟨(p5 i).2 (.inr ⟨by omega, by omega, by simp [bx0]; omega⟩), ?_⟩
    have := (Bx.put_get fc0_ok s (off := K) (by omega) (r := 0) rfl (i := i) (by simp [bx0]; omega)).2
    have hno : ¬ (bx0 64).has i := by
      rintro (⟨g1, g2⟩ | g)
      · have : (i : Int) < 0 := g2; omega
      · exact mem_nil g
    have h64 : (bx0 64).ring.length = 64 := by simp [bx0]
    rw [h64] at this
    exact this hno (by omega)
  have hs2 : ∀ i : Nat, K ≤ i → i < K + s.length → (fc2 K a s t).has i ∧ (fc2 K a s t).ring[i % 64]? = s[i - K]? := by
    intro i i1 i2
    obtain ⟨g1, g2⟩ := hs1 i i1 i2
    refine ⟨(q5 i).2 (.inl g1), ?_⟩
    have := (Bx.put_get ok1 t (off := a) (by omega) (r := 0) r1 (i := i) (by rw [l1]; omega)).1 g1
    rw [l1] at this
    exact this.trans g2
  have key : (fc3 K a s t).rd = 0 ∧ (fc3 K a s t).ring.length = 64 ∧ (∀ i : Nat, i < K + s.length → (fc3 K a s t).has i) ∧ (∀ i : Nat, K ≤ i → i < K + s.length → (fc3 K a s t).ring[i % 64]? = s[i - K]?) := by
    unfold fc3
    by_cases hK : (0 : Int) < K
    · rw [if_pos hK]
      obtain ⟨-, u2, u3, u4, u5⟩ := Bx.put_spec ok2 (List.replicate (K : Int).toNat 0) (off := 0) (by omega) (by omega)
      refine ⟨u2.trans r2, u3.trans l2, fun i hi => ?_, fun i i1 i2 => ?_⟩
      · by_cases g : K ≤ i
        · exact (u5 i).2 (.inl (hs2 i g hi).1)
        · exact (u5 i).2 (.inr ⟨by omega, by rw [List.length_replicate]; omega, by rw [r2, l2]; omega⟩)
      · obtain ⟨g1, g2⟩ := hs2 i i1 i2
        have := (Bx.put_get ok2 (List.replicate (K : Int).toNat 0) (off := 0) (by omega) (r := 0) r2 (i := i) (by rw [l2]; omega)).1 g1
        rw [l2] at this
        exact this.trans g2
    · rw [if_neg hK]
      exact ⟨r2, l2, fun i hi => (hs2 i (by omega) hi).1, fun i i1 i2 => (hs2 i i1 i2).2⟩
  obtain ⟨r3, l3, hh, hg⟩ := key
  have hnx : (K : Int) + s.length ≤ (fc3 K a s t).nx := by
    rcases (show (fc3 K a s t).nx < (K : Int) + s.length ∨ (K : Int) + s.length ≤ (fc3 K a s t).nx by omega) with g | g
    · exfalso
      have h2 := ok3.rdnx
      rw [r3] at h2
      obtain ⟨j, hj⟩ := Int.eq_ofNat_of_zero_le h2
      have := hh j (by omega)
      rw [← hj] at this
      exact ok3.nope this
    · exact g
  have hend := ok3.nxend
  rw [r3, l3] at hend
  obtain ⟨q, hq⟩ := Int.eq_ofNat_of_zero_le (show 0 ≤ min 100 ((fc3 K a s t).nx - (fc3 K a s t).rd) by rw [r3]; omega)
  have hT : (fc3 K a s t).takeS 100 = readB (fc3 K a s t).ring 0 q := by
    unfold Bx.takeS
    by_cases hz : min 100 ((fc3 K a s t).nx - (fc3 K a s t).rd) ≤ 0
    · rw [if_pos hz]
      have : q = 0 := by omega
      rw [this]
      unfold readB
      simp
    · rw [if_neg hz, hq, r3]
      rfl
  have hq1 : (K : Int) + s.length ≤ q := by rw [← hq, r3]; omega
  have hq2 : q ≤ 64 := by rw [r3] at hq; omega
  have hlen := readB_len (fc3 K a s t).ring 0 q ok3.one (by rw [l3]; exact hq2)
  rw [hT]
  refine ⟨by rw [hlen]; exact hq1, ?_⟩
  apply List.ext_getElem?
  intro i
  rw [Int.toNat_natCast]
  by_cases hi : i < s.length
  · rw [List.getElem?_take_of_lt hi, List.getElem?_drop, readB_get _ _ _ ok3.one (by rw [l3]; exact hq2) (by omega), l3, Nat.zero_add, hg _ (by omega) (by omega)]
    congr 1
    omega
  · rw [List.getElem?_eq_none (by rw [List.length_take]; omega), List.getElem?_eq_none (by omega)]
end Go.Proofs.Ytfeppkgcimgkeaa
