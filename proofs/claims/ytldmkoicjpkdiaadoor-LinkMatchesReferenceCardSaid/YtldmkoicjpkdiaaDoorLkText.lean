/- The reader's number, length, piece. -/
import Derived.Test.YtldmkoicjpkdiaaDoorLkEnc
namespace Go.Proofs.YtldmkoicjpkdiaaDoor
open Go.RowKit
theorem getE_yes {l : List UInt8} {a b : Nat} (h1 : 1 ≤ b) (h2 : b ≤ 4) (h : a + b ≤ l.length) : getE l a b = 0 ∧ getV l a b = unbe ((l.drop a).take b) := by
  unfold getE getV
  rw [if_pos (by omega), if_pos (by omega), Int.toNat_natCast, Int.toNat_natCast]
  exact ⟨rfl, rfl⟩
theorem getE_no {l : List UInt8} {a b : Nat} (h : ¬ a + b ≤ l.length) : getE l a b = 10 := by
  unfold getE
  rw [if_neg (by omega)]
set_option maxHeartbeats 1000000 in
theorem number_yes (s : ByteArray) (hs : s.size ≤ 9223372036854775807) (at_ b : Nat) (h1 : 1 ≤ b) (h2 : b ≤ 4) (h : at_ + b ≤ s.size) (w : World) :
    Calls Tryd.prog 30 #[.string s, .int .i64 at_, .int .i64 b] w fun e w' => e = .returned (.tuple #[.int .i64 (unbe ((s.data.toList.drop at_).take b) : Nat), .nilIface]) ∧ Below w.heap.size w w' := by
  have hsz : s.data.toList.length = s.size := by rw [Array.length_toList]; rfl
  have HG := Lib.hid (getE_yes (l := s.data.toList) (a := at_) h1 h2 (by omega))
  clear hsz
  go_enter Tryd.func30, Tryd.ntmps30
  go_wp2_with fail
  refine (get_any s hs (at_ : Int) (b : Int) _).mono ?_
  rintro e w1 ⟨rfl, hb1⟩
  rw [HG.out.1, HG.out.2]
  go_wp2_with fail
  go_ret2
  exact ⟨rfl, hb1⟩
set_option maxHeartbeats 1000000 in
theorem number_no (s : ByteArray) (hs : s.size ≤ 9223372036854775807) (at_ b : Nat) (h : ¬ at_ + b ≤ s.size) (a : Addr) (w : World) (he : ErrS a w) :
    Calls Tryd.prog 30 #[.string s, .int .i64 at_, .int .i64 b] w fun e w' => e = .returned (.tuple #[.int .i64 0, .iface 91 (.pointer (some a))]) ∧ Below w.heap.size w w' := by
  have hsz : s.data.toList.length = s.size := by rw [Array.length_toList]; rfl
  have HG := Lib.hid (getE_no (l := s.data.toList) (a := at_) (b := b) (by omega))
  clear hsz
  go_enter Tryd.func30, Tryd.ntmps30
  go_wp2_with fail
  refine (get_any s hs (at_ : Int) (b : Int) _).mono ?_
  rintro e w1 ⟨rfl, hb1⟩
  rw [HG.out]
  have h0 := (he.below hb1 he.2).1
  go_wp2_with fail
  go_quiet (fail)
  go_wp2_with fail
  go_ret2
  exact ⟨rfl, ⟨hb1.os, hb1.tape, hb1.output, hb1.size, hb1.block⟩⟩
set_option maxHeartbeats 1000000 in
theorem length_any (s : ByteArray) (w : World) : Calls Tryd.prog 28 #[.string s] w fun e w' => e = .returned (.int .i64 s.size) ∧ w = w' := by
  go_enter Tryd.func28, Tryd.ntmps28
  go_wp2_with fail
  go_ret
  exact ⟨rfl, rfl⟩
set_option maxHeartbeats 1000000 in
theorem piece_any (s : ByteArray) (i j : Nat) (h1 : i ≤ j) (h2 : j ≤ s.size) (w : World) : Calls Tryd.prog 29 #[.string s, .int .i64 i, .int .i64 j] w fun e w' => e = .returned (.string (s.extract i j)) ∧ w = w' := by
  go_enter Tryd.func29, Tryd.ntmps29
  go_wp2_with fail
  go_ret
  exact ⟨rfl, rfl⟩
end Go.Proofs.YtldmkoicjpkdiaaDoor
