/- The reference's Checksum and CRC32. -/
import Derived.Test.YtldmkoicjpkdiaaWireSanity
import Derived.Test.YtldmkoicjpkdiaaWireCkPlain
namespace Go.Proofs.Ytldmkoicjpkdiaa
open Go.RowKit
theorem sumR_snoc : ∀ (l : List UInt8) (c : UInt8), sumR (l ++ [c]) = sumR l + if l.length % 2 = 0 then 256 * c.toNat else c.toNat
  | [], c => by simp [sumR]
  | [a], c => by simp [sumR]
  | a :: b :: l, c => by
    have := sumR_snoc l c
    simp only [List.cons_append, sumR, this, List.length_cons]
    by_cases h : l.length % 2 = 0
    · rw [if_pos h, if_pos (by omega)]; omega
    · rw [if_neg h, if_neg (by omega)]; omega
theorem sumR_le (l : List UInt8) : sumR l ≤ 65280 * l.length := by
  refine snocInd (P := fun l => sumR l ≤ 65280 * l.length) ?_ ?_ l
  · simp [sumR]
  · intro l c ih
    rw [sumR_snoc, List.length_append, List.length_singleton]
    have := c.toNat_lt
    split <;> omega
set_option maxHeartbeats 400000 in
theorem refChecksum_any (s : ByteArray) (hs : s.size ≤ 1099511627776) (w : World) :
    Calls Try.prog 15 #[.string s] w fun e w' => e = .returned (.int .i64 (cksum s.data.toList : Nat)) ∧ w = w' := by
  go_enter Try.func15, Try.ntmps15
  go_wp2
  go_loop [3, 4] (fun n i => ∃ k : Nat, k ≤ s.size ∧ i = .int .i64 k ∧ n = .int .i64 (sumR (s.data.toList.take k) : Nat)) (fun _ i => s.size - (intOf i).toNat)
  case atStart => exact ⟨0, Nat.zero_le _, rfl, rfl⟩
  case round =>
    obtain ⟨k, hk, rfl, rfl⟩ := hrel
    have hle := sumR_le (s.data.toList.take k)
    have hlen : (s.data.toList.take k).length = k := by rw [List.length_take, Array.length_toList]; exact Nat.min_eq_left hk
    by_cases hlt : k < s.size
    · have hsn := sumR_snoc (s.data.toList.take k) s[k]
      rw [← take_snoc s k hlt, hlen] at hsn
      rw [hlen] at hle
      have hb := s[k].toNat_lt
      have HS := Lib.hid hsn
      clear hsn hlen
      generalize sumR (s.data.toList.take k) = x at hle HS
      by_cases ho : k % 2 = 0
      · rw [if_pos ho] at HS
        have ho' : ((k : Int) % 2 == 0) = true := by simp; omega
        clear ho
        go_wp2
        go_round
        case rel => exact ⟨k + 1, by omega, by go_num, by rw [HS.out]; go_num⟩
        case measure => simp [intOf]; omega
      · rw [if_neg ho] at HS
        have ho' : ((k : Int) % 2 == 0) = false := by simp; omega
        clear ho
        go_wp2
        go_round
        case rel => exact ⟨k + 1, by omega, by go_num, by rw [HS.out]; go_num⟩
        case measure => simp [intOf]; omega
    · obtain rfl : k = s.size := by omega
      rw [hlen] at hle
      have hall : s.data.toList.take s.size = s.data.toList := List.take_of_length_le (by rw [Array.length_toList]; exact Nat.le_refl _)
      rw [hall] at hle ⊢
      clear hall hlen
      have HF := Lib.hid (ck_eq s.data.toList)
      generalize sumR s.data.toList = x0 at hle HF ⊢
      go_wp2
      go_loop [3] (fun n => ∃ x : Nat, n = .int .i64 (x : Nat) ∧ fold16 x = fold16 x0 ∧ x ≤ 65280 * s.size) (fun n => (intOf n).toNat)
      case atStart => exact ⟨x0, rfl, rfl, hle⟩
      case round =>
        obtain ⟨x, rfl, hf, hx⟩ := hrel
        have HF2 := Lib.hid hf
        clear hf hle
        by_cases hgt : 65535 < x
        · have HG := Lib.hid hgt
          go_wp2
          go_round
          case rel => exact ⟨x % 65536 + x / 65536, by go_num, by rw [fold16_step x HG.out]; exact HF2.out, by omega⟩
          case measure => simp [intOf]; omega
        · go_wp2
          go_ret
          refine ⟨ret1i ?_, rfl⟩
          have h1 := HF2.out
          rw [fold16_small x (by omega)] at h1
          rw [HF.out, ← h1]
          omega
theorem xorPoly64 {x : Nat} (hx : x < 4294967296) : bits .xor .i64 ((x : Int) / 2) 3988292384 = ((x / 2 ^^^ 3988292384 : Nat) : Int) := by
  have := i64_xor_nat (x / 2) 3988292384 (by omega) (by omega)
  simpa using this
/-- x fits into 32 bits. -/
def In32 (x : Nat) : Prop := x < 4294967296
set_option maxHeartbeats 800000 in
theorem refCrc32_any (s : ByteArray) (hs : s.size ≤ maxLen) (w : World) :
    Calls Try.prog 17 #[.string s] w fun e w' => e = .returned (.int .i64 (crc s.data.toList : Nat)) ∧ w = w' := by
  unfold maxLen at hs
  go_enter Try.func17, Try.ntmps17
  go_wp2
  go_loop [3, 4] (fun c i => ∃ k : Nat, k ≤ s.size ∧ i = .int .i64 k ∧ c = .int .i64 (crcReg (s.data.toList.take k) : Nat)) (fun _ i => s.size - (intOf i).toNat)
  case atStart => exact ⟨0, Nat.zero_le _, rfl, rfl⟩
  case round =>
    obtain ⟨k, hk, rfl, rfl⟩ := hrel
    have hx : In32 (crcReg (s.data.toList.take k)) := crcReg_lt _
    by_cases hlt : k < s.size
    · have hsn := crcReg_snoc (s.data.toList.take k) s[k]
      rw [← take_snoc s k hlt] at hsn
      have HS := Lib.hid hsn
      clear hsn
      have hb8 := s[k].toNat_lt
      generalize crcReg (s.data.toList.take k) = x at hx HS ⊢
      have hxx := i64_xor_nat x s[k].toNat (by unfold In32 at hx; omega) (by omega)
      have hx0 : In32 (x ^^^ s[k].toNat) := xor_lt32 hx (by omega)
      go_wp2
      go_loop [3, 5] (fun c i => ∃ j : Nat, j ≤ 8 ∧ i = .int .i64 j ∧ c = .int .i64 (crcIt j (x ^^^ s[k].toNat) : Nat)) (fun _ i => 8 - (intOf i).toNat)
      case atStart => exact ⟨0, Nat.zero_le _, rfl, rfl⟩
      case round =>
        obtain ⟨j, hj, rfl, rfl⟩ := hrel
        clear hxx
        have hy : In32 (crcIt j (x ^^^ s[k].toNat)) := crcIt_lt j hx0
        by_cases hjt : j < 8
        · have hs2 : crcIt (j + 1) (x ^^^ s[k].toNat) = crcBit (crcIt j (x ^^^ s[k].toNat)) := rfl
          have HS2 := Lib.hid hs2
          clear hs2
          generalize crcIt j (x ^^^ s[k].toNat) = y at hy HS2 ⊢
          have hy2 : y < 4294967296 := hy
          by_cases hodd : y % 2 = 1
          · have ht : ((y : Int) % 2 == 1) = true := by simp; omega
            have hp := xorPoly64 hy
            have hcb : crcBit y = y / 2 ^^^ 3988292384 := by unfold crcBit; rw [if_pos hodd]
            rw [hcb] at HS2
            clear hodd hcb
            go_wp2
            go_round
            case rel => exact ⟨j + 1, by omega, by go_num, by rw [HS2.out]⟩
            case measure => simp [intOf]; omega
          · have ht : ((y : Int) % 2 == 1) = false := by simp; omega
            have hcb : crcBit y = y / 2 := by unfold crcBit; rw [if_neg hodd]
            rw [hcb] at HS2
            clear hodd hcb
            go_wp2
            go_round
            case rel => exact ⟨j + 1, by omega, by go_num, by rw [HS2.out]; go_num⟩
            case measure => simp [intOf]; omega
        · obtain rfl : j = 8 := by omega
          go_wp2
          go_round
          case rel => exact ⟨k + 1, by omega, by go_num, by rw [HS.out]; rfl⟩
          case measure => simp [intOf]; omega
    · obtain rfl : k = s.size := by omega
      have hall : s.data.toList.take s.size = s.data.toList := List.take_of_length_le (by rw [Array.length_toList]; exact Nat.le_refl _)
      rw [hall] at hx ⊢
      have HD := Lib.hid (show crc s.data.toList = crcReg s.data.toList ^^^ 4294967295 from rfl)
      generalize crcReg s.data.toList = x at hx HD ⊢
      have HX := Lib.hid (i64_xor_nat x 4294967295 (by unfold In32 at hx; omega) (by omega))
      clear hall
      go_wp2
      go_ret
      exact ⟨ret1i (by rw [HD.out]; exact HX.out), rfl⟩
end Go.Proofs.Ytldmkoicjpkdiaa
