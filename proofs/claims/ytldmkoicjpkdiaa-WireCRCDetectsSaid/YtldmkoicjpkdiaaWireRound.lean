/- WireRoundTrip: its walk. -/
import Derived.Test.YtldmkoicjpkdiaaWireSanity
import Derived.OpenShut
namespace Go.Proofs.Ytldmkoicjpkdiaa
open Go.RowKit
/-- m has at most b bytes. -/
def Fits (m b : Nat) : Prop := m < 256 ^ b
theorem app_toList (a b : ByteArray) : (a ++ b).data.toList = a.data.toList ++ b.data.toList := by simp
theorem size_toList (a : ByteArray) : a.data.toList.length = a.size := by rw [Array.length_toList]; rfl
theorem get_mid (fr S bh : ByteArray) (b m : Nat) (h1 : 1 ≤ b) (h4 : b ≤ 4) (hm : m < 256 ^ b) (hS : S.data.toList = be b m) :
    getV (fr ++ S ++ bh).data.toList fr.size b = m ∧ getE (fr ++ S ++ bh).data.toList fr.size b = 0 := by
  have hl : (be b m).length = b := be_length b m
  have hh : 1 ≤ (b : Int) ∧ (b : Int) ≤ 4 ∧ 0 ≤ (fr.size : Int) ∧ (fr.size : Int) + b ≤ ((fr ++ S ++ bh).data.toList.length : Nat) := by
    refine ⟨by omega, by omega, by omega, ?_⟩
    rw [app_toList, app_toList, hS, List.length_append, List.length_append, hl, size_toList]
    omega
  unfold getV getE
  rw [if_pos hh, if_pos hh]
  refine ⟨?_, rfl⟩
  rw [Int.toNat_natCast, Int.toNat_natCast, app_toList, app_toList, hS, List.append_assoc, List.drop_append_of_le_length (by rw [size_toList]; omega), List.drop_eq_nil_of_le (by rw [size_toList]; omega), List.nil_append, List.take_append_of_le_length (by omega), List.take_of_length_le (by omega), unbe_be b m hm]
theorem hpow1 (m : Nat) (h : (m : Int) < 256) : Fits m 1 := by
  unfold Fits
  rw [show (256 : Nat) ^ 1 = 256 by decide +kernel]
  omega
theorem hpowl1 (m : Nat) (h : Fits m 1) : m < 256 := by
  unfold Fits at h
  rw [show (256 : Nat) ^ 1 = 256 by decide +kernel] at h
  exact h
theorem hpow2 (m : Nat) (h : (m : Int) < 65536) : Fits m 2 := by
  unfold Fits
  rw [show (256 : Nat) ^ 2 = 65536 by decide +kernel]
  omega
theorem hpowl2 (m : Nat) (h : Fits m 2) : m < 65536 := by
  unfold Fits at h
  rw [show (256 : Nat) ^ 2 = 65536 by decide +kernel] at h
  exact h
theorem hpow3 (m : Nat) (h : (m : Int) < 16777216) : Fits m 3 := by
  unfold Fits
  rw [show (256 : Nat) ^ 3 = 16777216 by decide +kernel]
  omega
theorem hpowl3 (m : Nat) (h : Fits m 3) : m < 16777216 := by
  unfold Fits at h
  rw [show (256 : Nat) ^ 3 = 16777216 by decide +kernel] at h
  exact h
theorem hpow4 (m : Nat) (h : (m : Int) < 4294967296) : Fits m 4 := by
  unfold Fits
  rw [show (256 : Nat) ^ 4 = 4294967296 by decide +kernel]
  omega
theorem hpowl4 (m : Nat) (h : Fits m 4) : m < 4294967296 := by
  unfold Fits at h
  rw [show (256 : Nat) ^ 4 = 4294967296 by decide +kernel] at h
  exact h
set_option maxRecDepth 100000 in
set_option maxHeartbeats 8000000 in
theorem walk_WireRoundTrip (w : World) (n : Int) (wn : (Lit.int .i64 n).wf = true) (z : Int) (wz : (Lit.int .i64 z).wf = true) (front : ByteArray) (hf : front.size ≤ maxLen) (behind : ByteArray) (hb : behind.size ≤ maxLen) :
    Calls Try.prog 4 #[.int .i64 n, .int .i64 z, .string front, .string behind] w fun r w' => r = .returned (.bool true) ∧ Below w.heap.size w w' := by
  obtain ⟨hn1, hn2⟩ := bounds_i64 wn
  obtain ⟨hz1, hz2⟩ := bounds_i64 wz
  unfold maxLen at hf hb
  clear wn wz
  go_enter Try.func4, Try.ntmps4
  go_wp2_with fail
  refine (sanity_any _).mono ?_
  rintro r w0 ⟨rfl, hB0⟩
  go_wp2_with fail
  refine (pick_any z 4 _ hz1 hz2 (by omega) (by omega)).mono ?_
  rintro r w1 ⟨rfl, rfl⟩
  obtain ⟨p1, p2⟩ := pickV_bd z 4 (by omega)
  generalize pickV z 4 = pz at p1 p2 ⊢
  clear hz1 hz2
  have hsa : ∀ (x : ByteArray) (k : Nat), k ≤ 100 → (x.extract 0 k).size ≤ 100 := by intro x k hk; simp [ByteArray.size_extract]; omega
  have HSA := Lib.hid hsa
  clear hsa
  rcases (show pz = 0 ∨ pz = 1 ∨ pz = 2 ∨ pz = 3 by omega) with rfl | rfl | rfl | rfl
  all_goals clear p1 p2
  · go_wp2_with fail
    refine (pick_any n _ _ hn1 hn2 (by omega) (by omega)).mono ?_
    rintro r w1 ⟨rfl, rfl⟩
    obtain ⟨q1, q2⟩ := pickV_bd n 256 (by omega)
    generalize pickV n 256 = m at q1 q2 ⊢
    obtain ⟨m, rfl⟩ := Int.eq_ofNat_of_zero_le q1
    clear hn1 hn2 q1
    have Q2 : Fits m 1 := hpow1 m q2
    clear q2
    obtain ⟨S, hS⟩ : ∃ S : ByteArray, S = ⟨(be 1 m).toArray⟩ := ⟨_, rfl⟩
    have hSl : S.data.toList = be 1 m := by rw [hS]
    have hSz : S.size = 1 := by rw [← size_toList, hSl, be_length]
    have HSl := Lib.hid hSl
    have HS := Lib.hid hS
    clear hSl hS
    by_cases hf1 : 100 < front.size <;> by_cases hb1 : 100 < behind.size
    · go_wp2_with fail
      refine (put1_any m (hpowl1 m Q2) _).mono ?_
      rintro r w1 ⟨rfl, b1⟩
      rw [← HS.out]
      have hfs := HSA.out front 100 (by omega)
      generalize front.extract 0 100 = fr at hfs ⊢
      have hbs := HSA.out behind 100 (by omega)
      generalize behind.extract 0 100 = bh at hbs ⊢
      go_wp2_with fail
      obtain ⟨g1, g2⟩ := get_mid fr S bh 1 m (by omega) (by omega) Q2 HSl.out
      refine (get_any (fr ++ S ++ bh) (by simp only [ByteArray.size_append, hSz]; omega) fr.size 1 _).mono ?_
      rintro r w2 ⟨rfl, b2⟩
      rw [show ((1 : Nat) : Int) = 1 from rfl] at g1 g2
      rw [g1, g2]
      clear g1 g2
      go_wp2_with fail
      refine (put1_any m (hpowl1 m Q2) _).mono ?_
      rintro r w3 ⟨rfl, b3⟩
      rw [← HS.out]
      have hB3 := below_tr hB0 (below_tr b1 (below_tr b2 b3))
      clear b1 b2 b3 hB0
      go_wp2_with fail
      go_ret
      exact ⟨rfl, hB3⟩
    · go_wp2_with fail
      refine (put1_any m (hpowl1 m Q2) _).mono ?_
      rintro r w1 ⟨rfl, b1⟩
      rw [← HS.out]
      have hfs := HSA.out front 100 (by omega)
      generalize front.extract 0 100 = fr at hfs ⊢
      obtain ⟨bh, rfl⟩ : ∃ bh, bh = behind := ⟨_, rfl⟩
      go_wp2_with fail
      obtain ⟨g1, g2⟩ := get_mid fr S bh 1 m (by omega) (by omega) Q2 HSl.out
      refine (get_any (fr ++ S ++ bh) (by simp only [ByteArray.size_append, hSz]; omega) fr.size 1 _).mono ?_
      rintro r w2 ⟨rfl, b2⟩
      rw [show ((1 : Nat) : Int) = 1 from rfl] at g1 g2
      rw [g1, g2]
      clear g1 g2
      go_wp2_with fail
      refine (put1_any m (hpowl1 m Q2) _).mono ?_
      rintro r w3 ⟨rfl, b3⟩
      rw [← HS.out]
      have hB3 := below_tr hB0 (below_tr b1 (below_tr b2 b3))
      clear b1 b2 b3 hB0
      go_wp2_with fail
      go_ret
      exact ⟨rfl, hB3⟩
    · go_wp2_with fail
      refine (put1_any m (hpowl1 m Q2) _).mono ?_
      rintro r w1 ⟨rfl, b1⟩
      rw [← HS.out]
      obtain ⟨fr, rfl⟩ : ∃ fr, fr = front := ⟨_, rfl⟩
      have hbs := HSA.out behind 100 (by omega)
      generalize behind.extract 0 100 = bh at hbs ⊢
      go_wp2_with fail
      obtain ⟨g1, g2⟩ := get_mid fr S bh 1 m (by omega) (by omega) Q2 HSl.out
      refine (get_any (fr ++ S ++ bh) (by simp only [ByteArray.size_append, hSz]; omega) fr.size 1 _).mono ?_
      rintro r w2 ⟨rfl, b2⟩
      rw [show ((1 : Nat) : Int) = 1 from rfl] at g1 g2
      rw [g1, g2]
      clear g1 g2
      go_wp2_with fail
      refine (put1_any m (hpowl1 m Q2) _).mono ?_
      rintro r w3 ⟨rfl, b3⟩
      rw [← HS.out]
      have hB3 := below_tr hB0 (below_tr b1 (below_tr b2 b3))
      clear b1 b2 b3 hB0
      go_wp2_with fail
      go_ret
      exact ⟨rfl, hB3⟩
    · go_wp2_with fail
      refine (put1_any m (hpowl1 m Q2) _).mono ?_
      rintro r w1 ⟨rfl, b1⟩
      rw [← HS.out]
      obtain ⟨fr, rfl⟩ : ∃ fr, fr = front := ⟨_, rfl⟩
      obtain ⟨bh, rfl⟩ : ∃ bh, bh = behind := ⟨_, rfl⟩
      go_wp2_with fail
      obtain ⟨g1, g2⟩ := get_mid fr S bh 1 m (by omega) (by omega) Q2 HSl.out
      refine (get_any (fr ++ S ++ bh) (by simp only [ByteArray.size_append, hSz]; omega) fr.size 1 _).mono ?_
      rintro r w2 ⟨rfl, b2⟩
      rw [show ((1 : Nat) : Int) = 1 from rfl] at g1 g2
      rw [g1, g2]
      clear g1 g2
      go_wp2_with fail
      refine (put1_any m (hpowl1 m Q2) _).mono ?_
      rintro r w3 ⟨rfl, b3⟩
      rw [← HS.out]
      have hB3 := below_tr hB0 (below_tr b1 (below_tr b2 b3))
      clear b1 b2 b3 hB0
      go_wp2_with fail
      go_ret
      exact ⟨rfl, hB3⟩
  · go_wp2_with fail
    refine (pick_any n _ _ hn1 hn2 (by omega) (by omega)).mono ?_
    rintro r w1 ⟨rfl, rfl⟩
    obtain ⟨q1, q2⟩ := pickV_bd n 65536 (by omega)
    generalize pickV n 65536 = m at q1 q2 ⊢
    obtain ⟨m, rfl⟩ := Int.eq_ofNat_of_zero_le q1
    clear hn1 hn2 q1
    have Q2 : Fits m 2 := hpow2 m q2
    clear q2
    obtain ⟨S, hS⟩ : ∃ S : ByteArray, S = ⟨(be 2 m).toArray⟩ := ⟨_, rfl⟩
    have hSl : S.data.toList = be 2 m := by rw [hS]
    have hSz : S.size = 2 := by rw [← size_toList, hSl, be_length]
    have HSl := Lib.hid hSl
    have HS := Lib.hid hS
    clear hSl hS
    by_cases hf1 : 100 < front.size <;> by_cases hb1 : 100 < behind.size
    · go_wp2_with fail
      refine (put2_any m (hpowl2 m Q2) _).mono ?_
      rintro r w1 ⟨rfl, b1⟩
      rw [← HS.out]
      have hfs := HSA.out front 100 (by omega)
      generalize front.extract 0 100 = fr at hfs ⊢
      have hbs := HSA.out behind 100 (by omega)
      generalize behind.extract 0 100 = bh at hbs ⊢
      go_wp2_with fail
      obtain ⟨g1, g2⟩ := get_mid fr S bh 2 m (by omega) (by omega) Q2 HSl.out
      refine (get_any (fr ++ S ++ bh) (by simp only [ByteArray.size_append, hSz]; omega) fr.size 2 _).mono ?_
      rintro r w2 ⟨rfl, b2⟩
      rw [show ((2 : Nat) : Int) = 2 from rfl] at g1 g2
      rw [g1, g2]
      clear g1 g2
      go_wp2_with fail
      refine (put2_any m (hpowl2 m Q2) _).mono ?_
      rintro r w3 ⟨rfl, b3⟩
      rw [← HS.out]
      have hB3 := below_tr hB0 (below_tr b1 (below_tr b2 b3))
      clear b1 b2 b3 hB0
      go_wp2_with fail
      go_ret
      exact ⟨rfl, hB3⟩
    · go_wp2_with fail
      refine (put2_any m (hpowl2 m Q2) _).mono ?_
      rintro r w1 ⟨rfl, b1⟩
      rw [← HS.out]
      have hfs := HSA.out front 100 (by omega)
      generalize front.extract 0 100 = fr at hfs ⊢
      obtain ⟨bh, rfl⟩ : ∃ bh, bh = behind := ⟨_, rfl⟩
      go_wp2_with fail
      obtain ⟨g1, g2⟩ := get_mid fr S bh 2 m (by omega) (by omega) Q2 HSl.out
      refine (get_any (fr ++ S ++ bh) (by simp only [ByteArray.size_append, hSz]; omega) fr.size 2 _).mono ?_
      rintro r w2 ⟨rfl, b2⟩
      rw [show ((2 : Nat) : Int) = 2 from rfl] at g1 g2
      rw [g1, g2]
      clear g1 g2
      go_wp2_with fail
      refine (put2_any m (hpowl2 m Q2) _).mono ?_
      rintro r w3 ⟨rfl, b3⟩
      rw [← HS.out]
      have hB3 := below_tr hB0 (below_tr b1 (below_tr b2 b3))
      clear b1 b2 b3 hB0
      go_wp2_with fail
      go_ret
      exact ⟨rfl, hB3⟩
    · go_wp2_with fail
      refine (put2_any m (hpowl2 m Q2) _).mono ?_
      rintro r w1 ⟨rfl, b1⟩
      rw [← HS.out]
      obtain ⟨fr, rfl⟩ : ∃ fr, fr = front := ⟨_, rfl⟩
      have hbs := HSA.out behind 100 (by omega)
      generalize behind.extract 0 100 = bh at hbs ⊢
      go_wp2_with fail
      obtain ⟨g1, g2⟩ := get_mid fr S bh 2 m (by omega) (by omega) Q2 HSl.out
      refine (get_any (fr ++ S ++ bh) (by simp only [ByteArray.size_append, hSz]; omega) fr.size 2 _).mono ?_
      rintro r w2 ⟨rfl, b2⟩
      rw [show ((2 : Nat) : Int) = 2 from rfl] at g1 g2
      rw [g1, g2]
      clear g1 g2
      go_wp2_with fail
      refine (put2_any m (hpowl2 m Q2) _).mono ?_
      rintro r w3 ⟨rfl, b3⟩
      rw [← HS.out]
      have hB3 := below_tr hB0 (below_tr b1 (below_tr b2 b3))
      clear b1 b2 b3 hB0
      go_wp2_with fail
      go_ret
      exact ⟨rfl, hB3⟩
    · go_wp2_with fail
      refine (put2_any m (hpowl2 m Q2) _).mono ?_
      rintro r w1 ⟨rfl, b1⟩
      rw [← HS.out]
      obtain ⟨fr, rfl⟩ : ∃ fr, fr = front := ⟨_, rfl⟩
      obtain ⟨bh, rfl⟩ : ∃ bh, bh = behind := ⟨_, rfl⟩
      go_wp2_with fail
      obtain ⟨g1, g2⟩ := get_mid fr S bh 2 m (by omega) (by omega) Q2 HSl.out
      refine (get_any (fr ++ S ++ bh) (by simp only [ByteArray.size_append, hSz]; omega) fr.size 2 _).mono ?_
      rintro r w2 ⟨rfl, b2⟩
      rw [show ((2 : Nat) : Int) = 2 from rfl] at g1 g2
      rw [g1, g2]
      clear g1 g2
      go_wp2_with fail
      refine (put2_any m (hpowl2 m Q2) _).mono ?_
      rintro r w3 ⟨rfl, b3⟩
      rw [← HS.out]
      have hB3 := below_tr hB0 (below_tr b1 (below_tr b2 b3))
      clear b1 b2 b3 hB0
      go_wp2_with fail
      go_ret
      exact ⟨rfl, hB3⟩
  · go_wp2_with fail
    refine (pick_any n _ _ hn1 hn2 (by omega) (by omega)).mono ?_
    rintro r w1 ⟨rfl, rfl⟩
    obtain ⟨q1, q2⟩ := pickV_bd n 16777216 (by omega)
    generalize pickV n 16777216 = m at q1 q2 ⊢
    obtain ⟨m, rfl⟩ := Int.eq_ofNat_of_zero_le q1
    clear hn1 hn2 q1
    have Q2 : Fits m 3 := hpow3 m q2
    clear q2
    obtain ⟨S, hS⟩ : ∃ S : ByteArray, S = ⟨(be 3 m).toArray⟩ := ⟨_, rfl⟩
    have hSl : S.data.toList = be 3 m := by rw [hS]
    have hSz : S.size = 3 := by rw [← size_toList, hSl, be_length]
    have HSl := Lib.hid hSl
    have HS := Lib.hid hS
    clear hSl hS
    by_cases hf1 : 100 < front.size <;> by_cases hb1 : 100 < behind.size
    · go_wp2_with fail
      refine (put3_any m (hpowl3 m Q2) _).mono ?_
      rintro r w1 ⟨rfl, b1⟩
      rw [← HS.out]
      have hfs := HSA.out front 100 (by omega)
      generalize front.extract 0 100 = fr at hfs ⊢
      have hbs := HSA.out behind 100 (by omega)
      generalize behind.extract 0 100 = bh at hbs ⊢
      go_wp2_with fail
      obtain ⟨g1, g2⟩ := get_mid fr S bh 3 m (by omega) (by omega) Q2 HSl.out
      refine (get_any (fr ++ S ++ bh) (by simp only [ByteArray.size_append, hSz]; omega) fr.size 3 _).mono ?_
      rintro r w2 ⟨rfl, b2⟩
      rw [show ((3 : Nat) : Int) = 3 from rfl] at g1 g2
      rw [g1, g2]
      clear g1 g2
      go_wp2_with fail
      refine (put3_any m (hpowl3 m Q2) _).mono ?_
      rintro r w3 ⟨rfl, b3⟩
      rw [← HS.out]
      have hB3 := below_tr hB0 (below_tr b1 (below_tr b2 b3))
      clear b1 b2 b3 hB0
      go_wp2_with fail
      go_ret
      exact ⟨rfl, hB3⟩
    · go_wp2_with fail
      refine (put3_any m (hpowl3 m Q2) _).mono ?_
      rintro r w1 ⟨rfl, b1⟩
      rw [← HS.out]
      have hfs := HSA.out front 100 (by omega)
      generalize front.extract 0 100 = fr at hfs ⊢
      obtain ⟨bh, rfl⟩ : ∃ bh, bh = behind := ⟨_, rfl⟩
      go_wp2_with fail
      obtain ⟨g1, g2⟩ := get_mid fr S bh 3 m (by omega) (by omega) Q2 HSl.out
      refine (get_any (fr ++ S ++ bh) (by simp only [ByteArray.size_append, hSz]; omega) fr.size 3 _).mono ?_
      rintro r w2 ⟨rfl, b2⟩
      rw [show ((3 : Nat) : Int) = 3 from rfl] at g1 g2
      rw [g1, g2]
      clear g1 g2
      go_wp2_with fail
      refine (put3_any m (hpowl3 m Q2) _).mono ?_
      rintro r w3 ⟨rfl, b3⟩
      rw [← HS.out]
      have hB3 := below_tr hB0 (below_tr b1 (below_tr b2 b3))
      clear b1 b2 b3 hB0
      go_wp2_with fail
      go_ret
      exact ⟨rfl, hB3⟩
    · go_wp2_with fail
      refine (put3_any m (hpowl3 m Q2) _).mono ?_
      rintro r w1 ⟨rfl, b1⟩
      rw [← HS.out]
      obtain ⟨fr, rfl⟩ : ∃ fr, fr = front := ⟨_, rfl⟩
      have hbs := HSA.out behind 100 (by omega)
      generalize behind.extract 0 100 = bh at hbs ⊢
      go_wp2_with fail
      obtain ⟨g1, g2⟩ := get_mid fr S bh 3 m (by omega) (by omega) Q2 HSl.out
      refine (get_any (fr ++ S ++ bh) (by simp only [ByteArray.size_append, hSz]; omega) fr.size 3 _).mono ?_
      rintro r w2 ⟨rfl, b2⟩
      rw [show ((3 : Nat) : Int) = 3 from rfl] at g1 g2
      rw [g1, g2]
      clear g1 g2
      go_wp2_with fail
      refine (put3_any m (hpowl3 m Q2) _).mono ?_
      rintro r w3 ⟨rfl, b3⟩
      rw [← HS.out]
      have hB3 := below_tr hB0 (below_tr b1 (below_tr b2 b3))
      clear b1 b2 b3 hB0
      go_wp2_with fail
      go_ret
      exact ⟨rfl, hB3⟩
    · go_wp2_with fail
      refine (put3_any m (hpowl3 m Q2) _).mono ?_
      rintro r w1 ⟨rfl, b1⟩
      rw [← HS.out]
      obtain ⟨fr, rfl⟩ : ∃ fr, fr = front := ⟨_, rfl⟩
      obtain ⟨bh, rfl⟩ : ∃ bh, bh = behind := ⟨_, rfl⟩
      go_wp2_with fail
      obtain ⟨g1, g2⟩ := get_mid fr S bh 3 m (by omega) (by omega) Q2 HSl.out
      refine (get_any (fr ++ S ++ bh) (by simp only [ByteArray.size_append, hSz]; omega) fr.size 3 _).mono ?_
      rintro r w2 ⟨rfl, b2⟩
      rw [show ((3 : Nat) : Int) = 3 from rfl] at g1 g2
      rw [g1, g2]
      clear g1 g2
      go_wp2_with fail
      refine (put3_any m (hpowl3 m Q2) _).mono ?_
      rintro r w3 ⟨rfl, b3⟩
      rw [← HS.out]
      have hB3 := below_tr hB0 (below_tr b1 (below_tr b2 b3))
      clear b1 b2 b3 hB0
      go_wp2_with fail
      go_ret
      exact ⟨rfl, hB3⟩
  · go_wp2_with fail
    refine (pick_any n _ _ hn1 hn2 (by omega) (by omega)).mono ?_
    rintro r w1 ⟨rfl, rfl⟩
    obtain ⟨q1, q2⟩ := pickV_bd n 4294967296 (by omega)
    generalize pickV n 4294967296 = m at q1 q2 ⊢
    obtain ⟨m, rfl⟩ := Int.eq_ofNat_of_zero_le q1
    clear hn1 hn2 q1
    have Q2 : Fits m 4 := hpow4 m q2
    clear q2
    obtain ⟨S, hS⟩ : ∃ S : ByteArray, S = ⟨(be 4 m).toArray⟩ := ⟨_, rfl⟩
    have hSl : S.data.toList = be 4 m := by rw [hS]
    have hSz : S.size = 4 := by rw [← size_toList, hSl, be_length]
    have HSl := Lib.hid hSl
    have HS := Lib.hid hS
    clear hSl hS
    by_cases hf1 : 100 < front.size <;> by_cases hb1 : 100 < behind.size
    · go_wp2_with fail
      refine (put4_any m (hpowl4 m Q2) _).mono ?_
      rintro r w1 ⟨rfl, b1⟩
      rw [← HS.out]
      have hfs := HSA.out front 100 (by omega)
      generalize front.extract 0 100 = fr at hfs ⊢
      have hbs := HSA.out behind 100 (by omega)
      generalize behind.extract 0 100 = bh at hbs ⊢
      go_wp2_with fail
      obtain ⟨g1, g2⟩ := get_mid fr S bh 4 m (by omega) (by omega) Q2 HSl.out
      refine (get_any (fr ++ S ++ bh) (by simp only [ByteArray.size_append, hSz]; omega) fr.size 4 _).mono ?_
      rintro r w2 ⟨rfl, b2⟩
      rw [show ((4 : Nat) : Int) = 4 from rfl] at g1 g2
      rw [g1, g2]
      clear g1 g2
      go_wp2_with fail
      refine (put4_any m (hpowl4 m Q2) _).mono ?_
      rintro r w3 ⟨rfl, b3⟩
      rw [← HS.out]
      have hB3 := below_tr hB0 (below_tr b1 (below_tr b2 b3))
      clear b1 b2 b3 hB0
      go_wp2_with fail
      go_ret
      exact ⟨rfl, hB3⟩
    · go_wp2_with fail
      refine (put4_any m (hpowl4 m Q2) _).mono ?_
      rintro r w1 ⟨rfl, b1⟩
      rw [← HS.out]
      have hfs := HSA.out front 100 (by omega)
      generalize front.extract 0 100 = fr at hfs ⊢
      obtain ⟨bh, rfl⟩ : ∃ bh, bh = behind := ⟨_, rfl⟩
      go_wp2_with fail
      obtain ⟨g1, g2⟩ := get_mid fr S bh 4 m (by omega) (by omega) Q2 HSl.out
      refine (get_any (fr ++ S ++ bh) (by simp only [ByteArray.size_append, hSz]; omega) fr.size 4 _).mono ?_
      rintro r w2 ⟨rfl, b2⟩
      rw [show ((4 : Nat) : Int) = 4 from rfl] at g1 g2
      rw [g1, g2]
      clear g1 g2
      go_wp2_with fail
      refine (put4_any m (hpowl4 m Q2) _).mono ?_
      rintro r w3 ⟨rfl, b3⟩
      rw [← HS.out]
      have hB3 := below_tr hB0 (below_tr b1 (below_tr b2 b3))
      clear b1 b2 b3 hB0
      go_wp2_with fail
      go_ret
      exact ⟨rfl, hB3⟩
    · go_wp2_with fail
      refine (put4_any m (hpowl4 m Q2) _).mono ?_
      rintro r w1 ⟨rfl, b1⟩
      rw [← HS.out]
      obtain ⟨fr, rfl⟩ : ∃ fr, fr = front := ⟨_, rfl⟩
      have hbs := HSA.out behind 100 (by omega)
      generalize behind.extract 0 100 = bh at hbs ⊢
      go_wp2_with fail
      obtain ⟨g1, g2⟩ := get_mid fr S bh 4 m (by omega) (by omega) Q2 HSl.out
      refine (get_any (fr ++ S ++ bh) (by simp only [ByteArray.size_append, hSz]; omega) fr.size 4 _).mono ?_
      rintro r w2 ⟨rfl, b2⟩
      rw [show ((4 : Nat) : Int) = 4 from rfl] at g1 g2
      rw [g1, g2]
      clear g1 g2
      go_wp2_with fail
      refine (put4_any m (hpowl4 m Q2) _).mono ?_
      rintro r w3 ⟨rfl, b3⟩
      rw [← HS.out]
      have hB3 := below_tr hB0 (below_tr b1 (below_tr b2 b3))
      clear b1 b2 b3 hB0
      go_wp2_with fail
      go_ret
      exact ⟨rfl, hB3⟩
    · go_wp2_with fail
      refine (put4_any m (hpowl4 m Q2) _).mono ?_
      rintro r w1 ⟨rfl, b1⟩
      rw [← HS.out]
      obtain ⟨fr, rfl⟩ : ∃ fr, fr = front := ⟨_, rfl⟩
      obtain ⟨bh, rfl⟩ : ∃ bh, bh = behind := ⟨_, rfl⟩
      go_wp2_with fail
      obtain ⟨g1, g2⟩ := get_mid fr S bh 4 m (by omega) (by omega) Q2 HSl.out
      refine (get_any (fr ++ S ++ bh) (by simp only [ByteArray.size_append, hSz]; omega) fr.size 4 _).mono ?_
      rintro r w2 ⟨rfl, b2⟩
      rw [show ((4 : Nat) : Int) = 4 from rfl] at g1 g2
      rw [g1, g2]
      clear g1 g2
      go_wp2_with fail
      refine (put4_any m (hpowl4 m Q2) _).mono ?_
      rintro r w3 ⟨rfl, b3⟩
      rw [← HS.out]
      have hB3 := below_tr hB0 (below_tr b1 (below_tr b2 b3))
      clear b1 b2 b3 hB0
      go_wp2_with fail
      go_ret
      exact ⟨rfl, hB3⟩
end Go.Proofs.Ytldmkoicjpkdiaa

