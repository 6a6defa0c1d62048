/- The reference of layer 1: Put, Get and CRC32 (for the link seat). -/
import Derived.Test.YtldmkoicjpkdiaaDoorLkFr2
namespace Go.Proofs.YtldmkoicjpkdiaaDoor
open Go.RowKit
theorem ret1i {a b : Int} (h : a = b) : Ending.returned (.int .i64 a) = .returned (.int .i64 b) := by rw [h]
theorem below_tr {w w1 w2 : World} (h : Below w.heap.size w w1) (k : Below w1.heap.size w1 w2) : Below w.heap.size w w2 := h.trans (k.mono h.size)
theorem be_cons : ∀ (k m : Nat), be (k + 1) m = UInt8.ofNat (m / 256 ^ k % 256) :: be k m
  | 0, m => by simp [be]
  | k + 1, m => by
    rw [be, be_cons k (m / 256), be]
    rw [Nat.div_div_eq_div_mul, Nat.pow_succ, Nat.mul_comm 256]
    simp
/-- The powers of 256 up to the fourth. -/
theorem pow_le (k : Nat) (h : k < 4) : 256 ^ k ≤ 16777216 := by
  rcases (show k = 0 ∨ k = 1 ∨ k = 2 ∨ k = 3 by omega) with rfl | rfl | rfl | rfl <;> decide
def powN (b : Nat) : Nat := 256 ^ b
set_option maxHeartbeats 400000 in
theorem power_any (b : Nat) (hb : b ≤ 4) (w : World) :
    Calls Tryd.prog 42 #[.int .i64 b] w fun e w' => e = .returned (.int .i64 (powN b : Nat)) ∧ w = w' := by
  go_enter Tryd.func42, Tryd.ntmps42
  go_wp2
  go_loop [3, 4] (fun n i => ∃ k : Nat, k ≤ b ∧ i = .int .i64 k ∧ n = .int .i64 (powN k : Nat)) (fun _ i => b - (intOf i).toNat)
  case atStart => exact ⟨0, Nat.zero_le _, rfl, rfl⟩
  case round =>
    obtain ⟨k, hk, rfl, rfl⟩ := hrel
    by_cases hlt : k < b
    · have hp : powN k ≤ 16777216 := pow_le k (by omega)
      have hs : powN (k + 1) = 256 * powN k := by unfold powN; rw [Nat.pow_succ, Nat.mul_comm]
      have HS := Lib.hid hs
      clear hs
      generalize powN k = p at hp HS ⊢
      go_wp2
      go_round
      case rel => exact ⟨k + 1, by omega, by go_num, by rw [HS.out]; go_num⟩
      case measure => simp [intOf]; omega
    · obtain rfl : k = b := by omega
      go_wp2
      go_ret
      exact ⟨rfl, rfl⟩
theorem conv_one (W : World) (q : Nat) (t : TypeId) : (convert 36 9 (.slice (some ⟨W.heap.size, 0, none⟩) 1 1)).run Tryd.prog (W.alloc (.cells #[.int .u8 ((q : Int) % 256)] t)) = .ok (.string ⟨#[UInt8.ofNat (q % 256)]⟩) (W.alloc (.cells #[.int .u8 ((q : Int) % 256)] t)) := by
  have h := conv_new W [UInt8.ofNat (q % 256)] t
  have e : byteVals [UInt8.ofNat (q % 256)] = #[.int .u8 ((q : Int) % 256)] := by simp [byteVals]
  rw [e] at h
  exact h
set_option maxHeartbeats 400000 in
theorem refPut_in (m b : Nat) (h1 : 1 ≤ b) (h4 : b ≤ 4) (hm : m < 256 ^ b) (w : World) (hm2 : m ≤ 9223372036854775807) :
    Calls Tryd.prog 38 #[.int .i64 m, .int .i64 b] w fun e w' => e = .returned (.tuple #[.string ⟨(be b m).toArray⟩, .int .i64 0]) ∧ Below w.heap.size w w' := by
  have hP := Lib.hid hm
  clear hm
  go_enter Tryd.func38, Tryd.ntmps38
  go_wp2_with fail
  refine (power_any b h4 _).mono ?_
  rintro e w' ⟨rfl, rfl⟩
  have hlt := hP.out
  clear hP
  change m < powN b at hlt
  generalize hpp : powN b = P at hlt ⊢
  clear hpp
  go_wp2_with fail
  clear hlt
  go_loopw [0, 6, 7] (fun n s i wr => ∃ (k : Nat) (S : ByteArray), k ≤ b ∧ i = .int .i64 k ∧ n = .int .i64 (m / 256 ^ k : Nat) ∧ s = .string S ∧ S.data.toList = be k m ∧ Below w.heap.size w wr) (fun _ _ i _ => b - (intOf i).toNat)
  case atStart => exact ⟨0, ⟨#[]⟩, Nat.zero_le _, rfl, by simp, rfl, rfl, Below.refl _ _⟩
  case round =>
    obtain ⟨k, S, hk, rfl, rfl, rfl, hS, hB⟩ := hrel
    have hSz : S.size = k := by have := congrArg List.length hS; rw [be_length, Array.length_toList] at this; exact this
    have hSk : S.size ≤ 4 := by omega
    by_cases hkb : k < b
    · have hs : be (k + 1) m = UInt8.ofNat (m / 256 ^ k % 256) :: S.data.toList := by rw [hS]; exact be_cons k m
      have hd : m / 256 ^ (k + 1) = m / 256 ^ k / 256 := by rw [Nat.pow_succ, Nat.div_div_eq_div_mul]
      have HS := Lib.hid hs
      have HD := Lib.hid hd
      have hq : m / 256 ^ k ≤ 9223372036854775807 := Nat.le_trans (Nat.div_le_self _ _) hm2
      clear hs hd hS hSz
      generalize m / 256 ^ k = q at HS HD hq ⊢
      have hcv := fun W => conv_one W q 5
      go_wp2
      go_roundw
      case rel => exact ⟨k + 1, _, by omega, by go_num, by rw [HD.out]; go_num, rfl, by rw [HS.out]; simp, hB.alloc hB.size _⟩
      case measure => simp [intOf]; omega
    · obtain rfl : k = b := by omega
      have HS := Lib.hid hS
      clear hS hSz
      generalize m / 256 ^ k = q
      go_wp2
      go_ret2
      have e : S = ⟨(be k m).toArray⟩ := by
        rw [← HS.out]
      exact ⟨ret_put e rfl, hB⟩
set_option maxHeartbeats 400000 in
theorem refPut_out (n b : Int) (w : World) (h : b < 1 ∨ 4 < b ∨ n < 0) :
    Calls Tryd.prog 38 #[.int .i64 n, .int .i64 b] w fun e w' => e = .returned (.tuple #[.string ⟨#[]⟩, .int .i64 10]) ∧ Below w.heap.size w w' := by
  by_cases c1 : b < 1
  · clear h
    go_enter Tryd.func38, Tryd.ntmps38
    go_wp2_with fail
    go_ret2
    exact ⟨rfl, Below.refl _ _⟩
  · by_cases c2 : 4 < b
    · clear h
      go_enter Tryd.func38, Tryd.ntmps38
      go_wp2_with fail
      go_ret2
      exact ⟨rfl, Below.refl _ _⟩
    · have c3 : n < 0 := by omega
      clear h
      go_enter Tryd.func38, Tryd.ntmps38
      go_wp2_with fail
      go_ret2
      exact ⟨rfl, Below.refl _ _⟩
set_option maxHeartbeats 400000 in
theorem refPut_big (m b : Nat) (h1 : 1 ≤ b) (h4 : b ≤ 4) (hm : ¬ m < 256 ^ b) (w : World) :
    Calls Tryd.prog 38 #[.int .i64 m, .int .i64 b] w fun e w' => e = .returned (.tuple #[.string ⟨#[]⟩, .int .i64 10]) ∧ Below w.heap.size w w' := by
  have hP := Lib.hid hm
  clear hm
  go_enter Tryd.func38, Tryd.ntmps38
  go_wp2_with fail
  refine (power_any b h4 _).mono ?_
  rintro e w' ⟨rfl, rfl⟩
  have hlt := hP.out
  clear hP
  change ¬ m < powN b at hlt
  generalize powN b = P at hlt ⊢
  go_wp2_with fail
  go_ret2
  exact ⟨rfl, Below.refl _ _⟩
theorem refPut_any (n b : Int) (hn : n ≤ 9223372036854775807) (w : World) :
    Calls Tryd.prog 38 #[.int .i64 n, .int .i64 b] w fun e w' => e = .returned (.tuple #[.string (putS n b), .int .i64 (putE n b)]) ∧ Below w.heap.size w w' := by
  by_cases h : b < 1 ∨ 4 < b ∨ n < 0
  · obtain ⟨e1, e2⟩ := putS_no n b (by omega)
    rw [e1, e2]
    exact refPut_out n b w h
  · obtain ⟨m, rfl⟩ := Int.eq_ofNat_of_zero_le (show 0 ≤ n by omega)
    obtain ⟨c, rfl⟩ := Int.eq_ofNat_of_zero_le (show 0 ≤ b by omega)
    by_cases hm : m < 256 ^ c
    · obtain ⟨e1, e2⟩ := putS_yes m c (by omega) (by omega) hm
      rw [e1, e2]
      exact refPut_in m c (by omega) (by omega) hm w (by omega)
    · obtain ⟨e1, e2⟩ := putS_no m c (by
        intro hh
        apply hm
        have := hh.2.2.2
        rw [Int.toNat_natCast] at this
        have e : ((256 ^ c : Nat) : Int) = (256 : Int) ^ c := Int.natCast_pow 256 c
        rw [← e] at this
        exact Int.ofNat_lt.1 this)
      rw [e1, e2]
      exact refPut_big m c (by omega) (by omega) hm w
theorem unbe_take (l : List UInt8) (a k : Nat) (h : a + k < l.length) : unbe ((l.drop a).take (k + 1)) = 256 * unbe ((l.drop a).take k) + (l[a + k]).toNat := by
  rw [List.take_succ_eq_append_getElem (by rw [List.length_drop]; omega), unbe_snoc, List.getElem_drop]
theorem unbe_small (l : List UInt8) (h : l.length < 4) : unbe l ≤ 16777216 := by
  have h1 := unbe_lt l
  have h2 := pow_le l.length h
  omega
set_option maxHeartbeats 400000 in
theorem refGet_in (s : ByteArray) (hs : s.size ≤ 9223372036854775807) (a b : Nat) (h1 : 1 ≤ b) (h4 : b ≤ 4) (hab : a + b ≤ s.size) (w : World) :
    Calls Tryd.prog 40 #[.string s, .int .i64 a, .int .i64 b] w fun e w' => e = .returned (.tuple #[.int .i64 (unbe ((s.data.toList.drop a).take b) : Nat), .int .i64 0]) ∧ w = w' := by
  have f1 : decide ((b : Int) < 1) = false := by simp; omega
  have f2 : decide ((4 : Int) < (b : Int)) = false := by simp; omega
  have f3 : decide ((a : Int) < 0) = false := by simp
  have f4 : decide (s.size < a) = false := by simp; omega
  have f5 : decide ((s.size : Int) - (a : Int) < (b : Int)) = false := by simp; omega
  go_enter Tryd.func40, Tryd.ntmps40
  go_wp2
  go_loop [8, 9] (fun n i => ∃ k : Nat, k ≤ b ∧ i = .int .i64 ((a : Int) + k) ∧ n = .int .i64 (unbe ((s.data.toList.drop a).take k) : Nat)) (fun _ i => a + b - (intOf i).toNat)
  case atStart => exact ⟨0, Nat.zero_le _, by go_num, by simp [unbe]⟩
  case round =>
    obtain ⟨k, hk, rfl, rfl⟩ := hrel
    by_cases hlt : k < b
    · have hsm := unbe_small ((s.data.toList.drop a).take k) (by simp; omega)
      have hst := unbe_take s.data.toList a k (by rw [Array.length_toList]; show a + k < s.size; omega)
      have hb8 := s[a + k].toNat_lt
      have HS := Lib.hid (show unbe ((s.data.toList.drop a).take (k + 1)) = 256 * unbe ((s.data.toList.drop a).take k) + s[a + k].toNat from hst)
      clear hst
      generalize unbe ((s.data.toList.drop a).take k) = x at hsm HS ⊢
      go_wp2
      go_round
      case rel => exact ⟨k + 1, by omega, by go_num, by rw [HS.out]; go_num⟩
      case measure => simp [intOf]; omega
    · obtain rfl : k = b := by omega
      go_wp2
      go_ret2
      exact ⟨rfl, rfl⟩
set_option maxHeartbeats 400000 in
theorem refGet_out (s : ByteArray) (_hs : s.size ≤ 9223372036854775807) (a b : Int) (w : World) (h : b < 1 ∨ 4 < b ∨ a < 0 ∨ (s.size : Int) < a + b) :
    Calls Tryd.prog 40 #[.string s, .int .i64 a, .int .i64 b] w fun e w' => e = .returned (.tuple #[.int .i64 0, .int .i64 10]) ∧ w = w' := by
  by_cases c1 : b < 1
  · clear h
    go_enter Tryd.func40, Tryd.ntmps40
    go_wp2_with fail
    go_ret2
    exact ⟨rfl, rfl⟩
  · by_cases c2 : 4 < b
    · clear h
      go_enter Tryd.func40, Tryd.ntmps40
      go_wp2_with fail
      go_ret2
      exact ⟨rfl, rfl⟩
    · by_cases c3 : a < 0
      · clear h
        go_enter Tryd.func40, Tryd.ntmps40
        go_wp2_with fail
        go_ret2
        exact ⟨rfl, rfl⟩
      · by_cases c4 : (s.size : Int) < a
        · clear h
          go_enter Tryd.func40, Tryd.ntmps40
          go_wp2_with fail
          go_ret2
          exact ⟨rfl, rfl⟩
        · have c5 : (s.size : Int) - a < b := by omega
          clear h
          go_enter Tryd.func40, Tryd.ntmps40
          go_wp2_with fail
          go_ret2
          exact ⟨rfl, rfl⟩
theorem refGet_any (s : ByteArray) (hs : s.size ≤ 9223372036854775807) (a b : Int) (w : World) :
    Calls Tryd.prog 40 #[.string s, .int .i64 a, .int .i64 b] w fun e w' => e = .returned (.tuple #[.int .i64 (getV s.data.toList a b : Nat), .int .i64 (getE s.data.toList a b)]) ∧ w = w' := by
  have hsz : s.data.toList.length = s.size := by rw [Array.length_toList]; rfl
  by_cases h : 1 ≤ b ∧ b ≤ 4 ∧ 0 ≤ a ∧ a + b ≤ s.data.toList.length
  · unfold getV getE
    rw [if_pos h, if_pos h]
    rw [hsz] at h
    obtain ⟨x, rfl⟩ := Int.eq_ofNat_of_zero_le h.2.2.1
    obtain ⟨c, rfl⟩ := Int.eq_ofNat_of_zero_le (show 0 ≤ b by omega)
    rw [Int.toNat_natCast, Int.toNat_natCast]
    exact refGet_in s hs x c (by omega) (by omega) (by omega) w
  · unfold getV getE
    rw [if_neg h, if_neg h]
    rw [hsz] at h
    exact refGet_out s hs a b w (by omega)
theorem xorPoly64 {x : Nat} (hx : x < 4294967296) : bits .xor .i64 ((x : Int) / 2) 3988292384 = ((x / 2 ^^^ 3988292384 : Nat) : Int) := by
  have := i64_xor_nat (x / 2) 3988292384 (by omega) (by omega)
  simpa using this
/-- x fits into 32 bits. -/
def In32 (x : Nat) : Prop := x < 4294967296
set_option maxHeartbeats 800000 in
theorem refCrc32_any (s : ByteArray) (hs : s.size ≤ maxLen) (w : World) :
    Calls Tryd.prog 26 #[.string s] w fun e w' => e = .returned (.int .i64 (crc s.data.toList : Nat)) ∧ w = w' := by
  unfold maxLen at hs
  go_enter Tryd.func26, Tryd.ntmps26
  go_wp2
  go_loop [3, 4] (fun c i => ∃ k : Nat, k ≤ s.size ∧ i = .int .i64 k ∧ c = .int .i64 (crcReg (s.data.toList.take k) : Nat)) (fun _ i => s.size - (intOf i).toNat)
  case atStart => exact ⟨0, Nat.zero_le _, rfl, rfl⟩
  case round =>
    obtain ⟨k, hk, rfl, rfl⟩ := hrel
    have hx : In32 (crcReg (s.data.toList.take k)) := crcReg_lt _
    by_cases hlt : k < s.size
    · have hsn := crcReg_snoc (s.data.toList.take k) s[k]
      rw [← take_snoc s k hlt] at hsn
      have HS := Lib.hid hsn
      clear hsn
      have hb8 := s[k].toNat_lt
      generalize crcReg (s.data.toList.take k) = x at hx HS ⊢
      have hxx := i64_xor_nat x s[k].toNat (by unfold In32 at hx; omega) (by omega)
      have hx0 : In32 (x ^^^ s[k].toNat) := xor_lt32 hx (by omega)
      go_wp2
      go_loop [3, 5] (fun c i => ∃ j : Nat, j ≤ 8 ∧ i = .int .i64 j ∧ c = .int .i64 (crcIt j (x ^^^ s[k].toNat) : Nat)) (fun _ i => 8 - (intOf i).toNat)
      case atStart => exact ⟨0, Nat.zero_le _, rfl, rfl⟩
      case round =>
        obtain ⟨j, hj, rfl, rfl⟩ := hrel
        clear hxx
        have hy : In32 (crcIt j (x ^^^ s[k].toNat)) := crcIt_lt j hx0
        by_cases hjt : j < 8
        · have hs2 : crcIt (j + 1) (x ^^^ s[k].toNat) = crcBit (crcIt j (x ^^^ s[k].toNat)) := rfl
          have HS2 := Lib.hid hs2
          clear hs2
          generalize crcIt j (x ^^^ s[k].toNat) = y at hy HS2 ⊢
          have hy2 : y < 4294967296 := hy
          by_cases hodd : y % 2 = 1
          · have ht : ((y : Int) % 2 == 1) = true := by simp; omega
            have hp := xorPoly64 hy
            have hcb : crcBit y = y / 2 ^^^ 3988292384 := by unfold crcBit; rw [if_pos hodd]
            rw [hcb] at HS2
            clear hodd hcb
            go_wp2
            go_round
            case rel => exact ⟨j + 1, by omega, by go_num, by rw [HS2.out]⟩
            case measure => simp [intOf]; omega
          · have ht : ((y : Int) % 2 == 1) = false := by simp; omega
            have hcb : crcBit y = y / 2 := by unfold crcBit; rw [if_neg hodd]
            rw [hcb] at HS2
            clear hodd hcb
            go_wp2
            go_round
            case rel => exact ⟨j + 1, by omega, by go_num, by rw [HS2.out]; go_num⟩
            case measure => simp [intOf]; omega
        · obtain rfl : j = 8 := by omega
          go_wp2
          go_round
          case rel => exact ⟨k + 1, by omega, by go_num, by rw [HS.out]; rfl⟩
          case measure => simp [intOf]; omega
    · obtain rfl : k = s.size := by omega
      have hall : s.data.toList.take s.size = s.data.toList := List.take_of_length_le (by rw [Array.length_toList]; exact Nat.le_refl _)
      rw [hall] at hx ⊢
      have HD := Lib.hid (show crc s.data.toList = crcReg s.data.toList ^^^ 4294967295 from rfl)
      generalize crcReg s.data.toList = x at hx HD ⊢
      have HX := Lib.hid (i64_xor_nat x 4294967295 (by unfold In32 at hx; omega) (by omega))
      clear hall
      go_wp2
      go_ret
      exact ⟨ret1i (by rw [HD.out]; exact HX.out), rfl⟩
end Go.Proofs.YtldmkoicjpkdiaaDoor
