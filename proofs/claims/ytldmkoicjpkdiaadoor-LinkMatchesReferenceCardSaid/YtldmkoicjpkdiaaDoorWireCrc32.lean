/- The walk of wire.CRC32: at every string the CRC of its bytes. -/
import Derived.Test.YtldmkoicjpkdiaaDoorWireCrc
import Derived.IntWalk
namespace Go.Proofs.YtldmkoicjpkdiaaDoor
open Go.RowKit
theorem take_snoc (s : ByteArray) (k : Nat) (h : k < s.size) : s.data.toList.take (k + 1) = s.data.toList.take k ++ [s[k]] := by
  rw [List.take_succ_eq_append_getElem (by simpa using h)]; rfl
theorem ret_i {a b : Int} (h : a = b) : Ending.returned (.int .i64 a) = .returned (.int .i64 b) := by rw [h]
theorem notReg {x : Nat} (hx : x < 4294967296) : wrap64 (bits .xor .u32 IntKind.u32.max (x : Int)) = ((x ^^^ 4294967295 : Nat) : Int) := by
  have := u32_xor_nat 4294967295 x (by omega) hx
  have e : IntKind.u32.max = ((4294967295 : Nat) : Int) := by decide
  rw [e, this, Nat.xor_comm]
  have := xor_lt32 hx (show 4294967295 < 4294967296 by omega)
  exact IntWalk.wrap64_in _ ⟨by omega, by omega⟩
set_option maxHeartbeats 400000 in
theorem crc32_any (s : ByteArray) (w : World) (hs : s.size ≤ maxLen) :
    Calls Tryd.prog 22 #[.string s] w fun e w' => e = .returned (.int .i64 (crc s.data.toList)) ∧ Below w.heap.size w w' := by
  unfold maxLen at hs
  go_enter Tryd.func22, Tryd.ntmps22
  go_wp2_with fail
  go_loopw [9] (fun i wr => ∃ k : Nat, k ≤ s.size ∧ i = .int .i64 k ∧ Reg w.heap.size (crcReg (s.data.toList.take k)) wr ∧ Below w.heap.size w wr) (fun i _ => s.size - (intOf i).toNat)
  case atStart =>
    refine ⟨0, by omega, rfl, ⟨?_, ?_⟩, (Below.refl _ _).alloc (Nat.le_refl _) _⟩
    · rw [cell_of_row _ _ _ _ _ _ (heap_alloc_new _ _)]; rfl
    · exact frozen_of_row _ _ _ _ _ (heap_alloc_new _ _)
  case round =>
    obtain ⟨k, hk, rfl, hR, hB⟩ := hrel
    have hx := crcReg_lt (s.data.toList.take k)
    by_cases hlt : k < s.size
    · have hsn := crcReg_snoc (s.data.toList.take k) s[k]
      rw [← take_snoc s k hlt] at hsn
      have HS := Lib.hid hsn
      clear hsn
      have hb8 := s[k].toNat_lt
      go_wp2_with fail
      refine (feed_any _ s[k].toNat w.heap.size _ hR hx hb8).mono ?_
      rintro e w1 ⟨rfl, hR1, hB1⟩
      clear hx hR
      go_wp2_with fail
      go_roundw
      case rel => exact ⟨k + 1, by omega, by go_num, by rw [HS.out]; exact hR1, hB.trans hB1⟩
      case measure => simp [intOf]; omega
    · obtain ⟨h1, h2⟩ := hR
      rw [List.take_of_length_le (by simp; omega)] at h1 hx
      have HD := Lib.hid (show crc s.data.toList = crcReg s.data.toList ^^^ 4294967295 from rfl)
      generalize crcReg s.data.toList = x at h1 hx HD
      go_wp2_with fail
      all_goals go_ret
      all_goals refine ⟨ret_i ?_, hB⟩
      all_goals rw [HD.out, notReg hx]
end Go.Proofs.YtldmkoicjpkdiaaDoor
