/- WireChecksumZero: its walk. -/
import Derived.Test.YtldmkoicjpkdiaaWireRound
import Derived.Test.YtldmkoicjpkdiaaWireCkPlain
namespace Go.Proofs.Ytldmkoicjpkdiaa
open Go.RowKit
theorem zero_cases (L : List UInt8) (h : L.length % 2 = 0) (c m : Nat) (hc : cksum L = c) (hm : m < 65536) :
    m = c ∨ (m ≠ c ∧ m = 65535 ∧ c = 0 ∧ cksum (L ++ be 2 m) = 0) ∨ (m ≠ c ∧ m = 65535 ∧ c ≠ 0 ∧ cksum (L ++ be 2 m) ≠ 0) ∨ (m ≠ c ∧ m ≠ 65535 ∧ cksum (L ++ be 2 m) ≠ 0) := by
  have hz := ck_zero_iff L h m hm
  rw [hc] at hz
  by_cases h1 : m = c
  · exact .inl h1
  · by_cases h2 : m = 65535
    · by_cases h3 : c = 0
      · exact .inr (.inl ⟨h1, h2, h3, hz.2 (.inr ⟨h2, h3⟩)⟩)
      · exact .inr (.inr (.inl ⟨h1, h2, h3, fun hh => by rcases hz.1 hh with h | h; exact h1 h; exact h3 h.2⟩))
    · exact .inr (.inr (.inr ⟨h1, h2, fun hh => by rcases hz.1 hh with h | h; exact h1 h; exact h2 h.1⟩))
/-- U reads as the bytes l. -/
def Reads (U : ByteArray) (l : List UInt8) : Prop := U.data.toList = l
theorem Reads.size {U : ByteArray} {l : List UInt8} (h : Reads U l) : U.size = l.length := by rw [← size_toList, h]
theorem ck_cat {T U : ByteArray} {l : List UInt8} (h : Reads U l) : (T ++ U).data.toList = T.data.toList ++ l := by rw [app_toList, h]
theorem cat_le {T U : ByteArray} {l : List UInt8} {a b : Nat} (hT : T.size ≤ a) (h : Reads U l) (hl : l.length ≤ b) (hab : a + b ≤ 1099511627776) : (T ++ U).size ≤ 1099511627776 := by
  rw [ByteArray.size_append, h.size]; omega
theorem ck_le_fits (c : Nat) (h : c ≤ 65535) : Fits c 2 := by unfold Fits; omega
set_option maxRecDepth 100000 in
set_option maxHeartbeats 8000000 in
theorem walk_WireChecksumZero (w : World) (s : ByteArray) (hs : s.size ≤ maxLen) (n : Int) (wn : (Lit.int .i64 n).wf = true) :
    Calls Try.prog 5 #[.string s, .int .i64 n] w fun r w' => r = .returned (.bool true) ∧ Below w.heap.size w w' := by
  obtain ⟨hn1, hn2⟩ := bounds_i64 wn
  unfold maxLen at hs
  clear wn
  go_enter Try.func5, Try.ntmps5
  go_wp2_with fail
  refine (sanity_any _).mono ?_
  rintro r w0 ⟨rfl, hB0⟩
  by_cases h4 : 400 < s.size
  · go_wp2_with fail
    have hT : (s.extract 0 400).size ≤ 400 := by simp [ByteArray.size_extract]; omega
    have hE : (s.extract 0 400).data.toList.length % 2 = 0 := by rw [size_toList]; simp [ByteArray.size_extract]; omega
    generalize s.extract 0 400 = T at hT hE ⊢
    refine (checksum_any T (by omega) _).mono ?_
    rintro r w1 ⟨rfl, b1⟩
    obtain ⟨c, hc⟩ : ∃ c, cksum T.data.toList = c := ⟨_, rfl⟩
    have hcl : c ≤ 65535 := by rw [← hc]; exact cksum_le _
    rw [hc]
    have HC := Lib.hid hc
    have HE := Lib.hid hE
    have HCF := ck_le_fits c hcl
    clear hc hE
    obtain ⟨U, hU⟩ : ∃ U : ByteArray, U = ⟨(be 2 c).toArray⟩ := ⟨_, rfl⟩
    have hUl : Reads U (be 2 c) := by unfold Reads; rw [hU]
    have hUs : U.size ≤ 2 := by rw [hUl.size, be_length]; exact Nat.le_refl _
    go_wp2_with fail
    refine (put2_any c (hpowl2 c HCF) _).mono ?_
    rintro r w2 ⟨rfl, b2⟩
    rw [← hU]
    clear hU
    go_wp2_with fail
    refine (pick_any n 65536 _ hn1 hn2 (by omega) (by omega)).mono ?_
    rintro r w3 ⟨rfl, rfl⟩
    obtain ⟨q1, q2⟩ := pickV_bd n 65536 (by omega)
    generalize pickV n 65536 = m at q1 q2 ⊢
    obtain ⟨m, rfl⟩ := Int.eq_ofNat_of_zero_le q1
    have Q2 : Fits m 2 := hpow2 m q2
    clear q1 q2 hn1 hn2
    obtain ⟨V, hV⟩ : ∃ V : ByteArray, V = ⟨(be 2 m).toArray⟩ := ⟨_, rfl⟩
    have hVl : Reads V (be 2 m) := by unfold Reads; rw [hV]
    have hVs : V.size ≤ 2 := by rw [hVl.size, be_length]; exact Nat.le_refl _
    go_wp2_with fail
    refine (put2_any m (hpowl2 m Q2) _).mono ?_
    rintro r w3 ⟨rfl, b3⟩
    rw [← hV]
    clear hV
    have hB3 := below_tr hB0 (below_tr b1 (below_tr b2 b3))
    clear b1 b2 b3 hB0
    have hmm := hpowl2 m Q2
    rcases zero_cases T.data.toList HE.out c m HC.out hmm with rfl | ⟨k1, rfl, rfl, k4⟩ | ⟨k1, rfl, k3, k4⟩ | ⟨k1, k2, k4⟩
    · clear hmm
      go_wp2_with fail
      refine (checksum_any (T ++ U) (cat_le hT hUl (by rw [be_length]; exact Nat.le_refl _) (by omega)) _).mono ?_
      rintro r w4 ⟨rfl, b4⟩
      rw [ck_cat hUl, show cksum (T.data.toList ++ be 2 m) = 0 by have := ck_zero T.data.toList HE.out; rw [HC.out] at this; exact this]
      go_wp2_with fail
      refine (checksum_any (T ++ V) (cat_le hT hVl (by rw [be_length]; exact Nat.le_refl _) (by omega)) _).mono ?_
      rintro r w5 ⟨rfl, b5⟩
      rw [ck_cat hVl, show cksum (T.data.toList ++ be 2 m) = 0 by have := ck_zero T.data.toList HE.out; rw [HC.out] at this; exact this]
      have hB5 := below_tr hB3 (below_tr b4 b5)
      clear b4 b5 hB3
      go_wp2_with fail
      go_ret
      exact ⟨rfl, hB5⟩
    · clear hmm k1
      have K4 := Lib.hid k4
      clear k4
      go_wp2_with fail
      refine (checksum_any (T ++ U) (cat_le hT hUl (by rw [be_length]; exact Nat.le_refl _) (by omega)) _).mono ?_
      rintro r w4 ⟨rfl, b4⟩
      rw [ck_cat hUl, show cksum (T.data.toList ++ be 2 0) = 0 by have := ck_zero T.data.toList HE.out; rw [HC.out] at this; exact this]
      go_wp2_with fail
      refine (checksum_any (T ++ V) (cat_le hT hVl (by rw [be_length]; exact Nat.le_refl _) (by omega)) _).mono ?_
      rintro r w5 ⟨rfl, b5⟩
      rw [ck_cat hVl, K4.out]
      have hB5 := below_tr hB3 (below_tr b4 b5)
      clear b4 b5 hB3
      go_wp2_with fail
      go_ret
      exact ⟨rfl, hB5⟩
    · clear hmm
      have f1 : (((65535 : Nat) : Int) == (c : Int)) = false := by simp; omega
      have f2 : ((c : Int) == 0) = false := by simp; omega
      rw [show ((65535 : Nat) : Int) = 65535 from rfl] at f1 ⊢
      have K4 := Lib.hid k4
      clear k4 k1 k3
      go_wp2_with fail
      refine (checksum_any (T ++ U) (cat_le hT hUl (by rw [be_length]; exact Nat.le_refl _) (by omega)) _).mono ?_
      rintro r w4 ⟨rfl, b4⟩
      rw [ck_cat hUl, show cksum (T.data.toList ++ be 2 c) = 0 by have := ck_zero T.data.toList HE.out; rw [HC.out] at this; exact this]
      go_wp2_with fail
      refine (checksum_any (T ++ V) (cat_le hT hVl (by rw [be_length]; exact Nat.le_refl _) (by omega)) _).mono ?_
      rintro r w5 ⟨rfl, b5⟩
      rw [ck_cat hVl]
      have k5 := K4.out
      generalize cksum (T.data.toList ++ be 2 65535) = y at k5 ⊢
      have f3 : ((y : Int) == 0) = false := by simp; omega
      clear k5 K4
      have hB5 := below_tr hB3 (below_tr b4 b5)
      clear b4 b5 hB3
      go_wp2_with fail
      go_ret
      exact ⟨rfl, hB5⟩
    · clear hmm
      have f1 : ((m : Int) == (c : Int)) = false := by simp; omega
      have f2 : ((m : Int) == 65535) = false := by simp; omega
      have K4 := Lib.hid k4
      clear k4 k1 k2
      go_wp2_with fail
      refine (checksum_any (T ++ U) (cat_le hT hUl (by rw [be_length]; exact Nat.le_refl _) (by omega)) _).mono ?_
      rintro r w4 ⟨rfl, b4⟩
      rw [ck_cat hUl, show cksum (T.data.toList ++ be 2 c) = 0 by have := ck_zero T.data.toList HE.out; rw [HC.out] at this; exact this]
      go_wp2_with fail
      refine (checksum_any (T ++ V) (cat_le hT hVl (by rw [be_length]; exact Nat.le_refl _) (by omega)) _).mono ?_
      rintro r w5 ⟨rfl, b5⟩
      rw [ck_cat hVl]
      have k5 := K4.out
      generalize cksum (T.data.toList ++ be 2 m) = y at k5 ⊢
      have f3 : ((y : Int) == 0) = false := by simp; omega
      clear k5 K4
      have hB5 := below_tr hB3 (below_tr b4 b5)
      clear b4 b5 hB3
      go_wp2_with fail
      go_ret
      exact ⟨rfl, hB5⟩
  · go_wp2_with fail
    have hT : (s.extract 0 (s.size / 2 * 2)).size ≤ 400 := by simp [ByteArray.size_extract]; omega
    have hE : (s.extract 0 (s.size / 2 * 2)).data.toList.length % 2 = 0 := by rw [size_toList]; simp [ByteArray.size_extract]; omega
    generalize s.extract 0 (s.size / 2 * 2) = T at hT hE ⊢
    refine (checksum_any T (by omega) _).mono ?_
    rintro r w1 ⟨rfl, b1⟩
    obtain ⟨c, hc⟩ : ∃ c, cksum T.data.toList = c := ⟨_, rfl⟩
    have hcl : c ≤ 65535 := by rw [← hc]; exact cksum_le _
    rw [hc]
    have HC := Lib.hid hc
    have HE := Lib.hid hE
    have HCF := ck_le_fits c hcl
    clear hc hE
    obtain ⟨U, hU⟩ : ∃ U : ByteArray, U = ⟨(be 2 c).toArray⟩ := ⟨_, rfl⟩
    have hUl : Reads U (be 2 c) := by unfold Reads; rw [hU]
    have hUs : U.size ≤ 2 := by rw [hUl.size, be_length]; exact Nat.le_refl _
    go_wp2_with fail
    refine (put2_any c (hpowl2 c HCF) _).mono ?_
    rintro r w2 ⟨rfl, b2⟩
    rw [← hU]
    clear hU
    go_wp2_with fail
    refine (pick_any n 65536 _ hn1 hn2 (by omega) (by omega)).mono ?_
    rintro r w3 ⟨rfl, rfl⟩
    obtain ⟨q1, q2⟩ := pickV_bd n 65536 (by omega)
    generalize pickV n 65536 = m at q1 q2 ⊢
    obtain ⟨m, rfl⟩ := Int.eq_ofNat_of_zero_le q1
    have Q2 : Fits m 2 := hpow2 m q2
    clear q1 q2 hn1 hn2
    obtain ⟨V, hV⟩ : ∃ V : ByteArray, V = ⟨(be 2 m).toArray⟩ := ⟨_, rfl⟩
    have hVl : Reads V (be 2 m) := by unfold Reads; rw [hV]
    have hVs : V.size ≤ 2 := by rw [hVl.size, be_length]; exact Nat.le_refl _
    go_wp2_with fail
    refine (put2_any m (hpowl2 m Q2) _).mono ?_
    rintro r w3 ⟨rfl, b3⟩
    rw [← hV]
    clear hV
    have hB3 := below_tr hB0 (below_tr b1 (below_tr b2 b3))
    clear b1 b2 b3 hB0
    have hmm := hpowl2 m Q2
    rcases zero_cases T.data.toList HE.out c m HC.out hmm with rfl | ⟨k1, rfl, rfl, k4⟩ | ⟨k1, rfl, k3, k4⟩ | ⟨k1, k2, k4⟩
    · clear hmm
      go_wp2_with fail
      refine (checksum_any (T ++ U) (cat_le hT hUl (by rw [be_length]; exact Nat.le_refl _) (by omega)) _).mono ?_
      rintro r w4 ⟨rfl, b4⟩
      rw [ck_cat hUl, show cksum (T.data.toList ++ be 2 m) = 0 by have := ck_zero T.data.toList HE.out; rw [HC.out] at this; exact this]
      go_wp2_with fail
      refine (checksum_any (T ++ V) (cat_le hT hVl (by rw [be_length]; exact Nat.le_refl _) (by omega)) _).mono ?_
      rintro r w5 ⟨rfl, b5⟩
      rw [ck_cat hVl, show cksum (T.data.toList ++ be 2 m) = 0 by have := ck_zero T.data.toList HE.out; rw [HC.out] at this; exact this]
      have hB5 := below_tr hB3 (below_tr b4 b5)
      clear b4 b5 hB3
      go_wp2_with fail
      go_ret
      exact ⟨rfl, hB5⟩
    · clear hmm k1
      have K4 := Lib.hid k4
      clear k4
      go_wp2_with fail
      refine (checksum_any (T ++ U) (cat_le hT hUl (by rw [be_length]; exact Nat.le_refl _) (by omega)) _).mono ?_
      rintro r w4 ⟨rfl, b4⟩
      rw [ck_cat hUl, show cksum (T.data.toList ++ be 2 0) = 0 by have := ck_zero T.data.toList HE.out; rw [HC.out] at this; exact this]
      go_wp2_with fail
      refine (checksum_any (T ++ V) (cat_le hT hVl (by rw [be_length]; exact Nat.le_refl _) (by omega)) _).mono ?_
      rintro r w5 ⟨rfl, b5⟩
      rw [ck_cat hVl, K4.out]
      have hB5 := below_tr hB3 (below_tr b4 b5)
      clear b4 b5 hB3
      go_wp2_with fail
      go_ret
      exact ⟨rfl, hB5⟩
    · clear hmm
      have f1 : (((65535 : Nat) : Int) == (c : Int)) = false := by simp; omega
      have f2 : ((c : Int) == 0) = false := by simp; omega
      rw [show ((65535 : Nat) : Int) = 65535 from rfl] at f1 ⊢
      have K4 := Lib.hid k4
      clear k4 k1 k3
      go_wp2_with fail
      refine (checksum_any (T ++ U) (cat_le hT hUl (by rw [be_length]; exact Nat.le_refl _) (by omega)) _).mono ?_
      rintro r w4 ⟨rfl, b4⟩
      rw [ck_cat hUl, show cksum (T.data.toList ++ be 2 c) = 0 by have := ck_zero T.data.toList HE.out; rw [HC.out] at this; exact this]
      go_wp2_with fail
      refine (checksum_any (T ++ V) (cat_le hT hVl (by rw [be_length]; exact Nat.le_refl _) (by omega)) _).mono ?_
      rintro r w5 ⟨rfl, b5⟩
      rw [ck_cat hVl]
      have k5 := K4.out
      generalize cksum (T.data.toList ++ be 2 65535) = y at k5 ⊢
      have f3 : ((y : Int) == 0) = false := by simp; omega
      clear k5 K4
      have hB5 := below_tr hB3 (below_tr b4 b5)
      clear b4 b5 hB3
      go_wp2_with fail
      go_ret
      exact ⟨rfl, hB5⟩
    · clear hmm
      have f1 : ((m : Int) == (c : Int)) = false := by simp; omega
      have f2 : ((m : Int) == 65535) = false := by simp; omega
      have K4 := Lib.hid k4
      clear k4 k1 k2
      go_wp2_with fail
      refine (checksum_any (T ++ U) (cat_le hT hUl (by rw [be_length]; exact Nat.le_refl _) (by omega)) _).mono ?_
      rintro r w4 ⟨rfl, b4⟩
      rw [ck_cat hUl, show cksum (T.data.toList ++ be 2 c) = 0 by have := ck_zero T.data.toList HE.out; rw [HC.out] at this; exact this]
      go_wp2_with fail
      refine (checksum_any (T ++ V) (cat_le hT hVl (by rw [be_length]; exact Nat.le_refl _) (by omega)) _).mono ?_
      rintro r w5 ⟨rfl, b5⟩
      rw [ck_cat hVl]
      have k5 := K4.out
      generalize cksum (T.data.toList ++ be 2 m) = y at k5 ⊢
      have f3 : ((y : Int) == 0) = false := by simp; omega
      clear k5 K4
      have hB5 := below_tr hB3 (below_tr b4 b5)
      clear b4 b5 hB3
      go_wp2_with fail
      go_ret
      exact ⟨rfl, hB5⟩
end Go.Proofs.Ytldmkoicjpkdiaa

