/- Valid and AddressedTo. -/
import Derived.Test.YtldmkoicjpkdiaaDoorRows
import Derived.Test.YtldmkoicjpkdiaaDoorLkPlain
import Derived.WalkKit
import Derived.WalkSpells
import Derived.WalkLawsBesides
import Derived.Lib.Hide
import Derived.IntWalk
import Derived.Deep.QuietTactic
import Derived.BigQuiet
import Derived.Outline
namespace Go.Proofs.YtldmkoicjpkdiaaDoor
open Go.RowKit
/-- A frame as Go passes it. -/
def frA (t f k : Int) (s : ByteArray) : Value := .agg #[.int .i64 t, .int .i64 f, .int .i64 k, .string s]
theorem ret_b {a b : Bool} (h : a = b) : Ending.returned (.bool a) = .returned (.bool b) := by rw [h]
set_option maxHeartbeats 1600000 in
theorem valid_any (t f k : Int) (s : ByteArray) (hs : s.size ≤ 9223372036854775807) (w : World) :
    Calls Tryd.prog 15 #[.agg #[.int .i64 t, .int .i64 f, .int .i64 k, .string s]] w fun e w' => e = .returned (.bool (Fr.okB ⟨t, f, k, s.data.toList⟩)) ∧ Below w.heap.size w w' := by
  have hsz : s.data.toList.length = s.size := by rw [Array.length_toList]; rfl
  by_cases c0 : t < 1
  · skip
    have HV := Lib.hid (show false = Fr.okB ⟨t, f, k, s.data.toList⟩ by symm; unfold Fr.okB; rw [hsz]; simp; omega)
    clear hsz
    go_enter Tryd.func15, Tryd.ntmps15
    go_wp2_with fail
    go_ret
    exact ⟨ret_b HV.out, (Below.refl _ _).alloc (Nat.le_refl _) _⟩
  by_cases c1 : 65535 < t
  · skip
    have HV := Lib.hid (show false = Fr.okB ⟨t, f, k, s.data.toList⟩ by symm; unfold Fr.okB; rw [hsz]; simp; omega)
    clear hsz
    go_enter Tryd.func15, Tryd.ntmps15
    go_wp2_with fail
    go_ret
    exact ⟨ret_b HV.out, (Below.refl _ _).alloc (Nat.le_refl _) _⟩
  by_cases c2 : f < 1
  · skip
    have HV := Lib.hid (show false = Fr.okB ⟨t, f, k, s.data.toList⟩ by symm; unfold Fr.okB; rw [hsz]; simp; omega)
    clear hsz
    go_enter Tryd.func15, Tryd.ntmps15
    go_wp2_with fail
    go_ret
    exact ⟨ret_b HV.out, (Below.refl _ _).alloc (Nat.le_refl _) _⟩
  by_cases c3 : 65534 < f
  · skip
    have HV := Lib.hid (show false = Fr.okB ⟨t, f, k, s.data.toList⟩ by symm; unfold Fr.okB; rw [hsz]; simp; omega)
    clear hsz
    go_enter Tryd.func15, Tryd.ntmps15
    go_wp2_with fail
    go_ret
    exact ⟨ret_b HV.out, (Below.refl _ _).alloc (Nat.le_refl _) _⟩
  by_cases k1 : k = 1
  · subst k1
    have HV := Lib.hid (show decide ((s.size : Int) ≤ 1024) = Fr.okB ⟨t, f, 1, s.data.toList⟩ by symm; unfold Fr.okB; rw [hsz]; dsimp only; rw [decide_eq_decide]; omega)
    clear hsz
    go_enter Tryd.func15, Tryd.ntmps15
    go_wp2_with fail
    go_ret
    exact ⟨ret_b HV.out, (Below.refl _ _).alloc (Nat.le_refl _) _⟩
  by_cases k2 : k = 2
  · subst k2
    have HV := Lib.hid (show decide ((s.size : Int) ≤ 1024) = Fr.okB ⟨t, f, 2, s.data.toList⟩ by symm; unfold Fr.okB; rw [hsz]; dsimp only; rw [decide_eq_decide]; omega)
    clear hsz
    go_enter Tryd.func15, Tryd.ntmps15
    go_wp2_with fail
    go_ret
    exact ⟨ret_b HV.out, (Below.refl _ _).alloc (Nat.le_refl _) _⟩
  have b1 : (k == 1) = false := by rw [beq_eq_false_iff_ne]; exact k1
  have b2 : (k == 2) = false := by rw [beq_eq_false_iff_ne]; exact k2
  have HV := Lib.hid (show false = Fr.okB ⟨t, f, k, s.data.toList⟩ by symm; unfold Fr.okB; rw [hsz]; simp; omega)
  clear hsz
  go_enter Tryd.func15, Tryd.ntmps15
  go_wp2_with fail
  go_ret
  exact ⟨ret_b HV.out, (Below.refl _ _).alloc (Nat.le_refl _) _⟩
set_option maxHeartbeats 1600000 in
theorem rvalid_any (t f k : Int) (s : ByteArray) (hs : s.size ≤ 9223372036854775807) (w : World) :
    Calls Tryd.prog 16 #[.agg #[.int .i64 t, .int .i64 f, .int .i64 k, .string s]] w fun e w' => e = .returned (.bool (Fr.okB ⟨t, f, k, s.data.toList⟩)) ∧ Below w.heap.size w w' := by
  have hsz : s.data.toList.length = s.size := by rw [Array.length_toList]; rfl
  by_cases c0 : t < 1
  · skip
    have HV := Lib.hid (show false = Fr.okB ⟨t, f, k, s.data.toList⟩ by symm; unfold Fr.okB; rw [hsz]; simp; omega)
    clear hsz
    go_enter Tryd.func16, Tryd.ntmps16
    go_wp2_with fail
    go_ret
    exact ⟨ret_b HV.out, (Below.refl _ _).alloc (Nat.le_refl _) _⟩
  by_cases c1 : 65535 < t
  · skip
    have HV := Lib.hid (show false = Fr.okB ⟨t, f, k, s.data.toList⟩ by symm; unfold Fr.okB; rw [hsz]; simp; omega)
    clear hsz
    go_enter Tryd.func16, Tryd.ntmps16
    go_wp2_with fail
    go_ret
    exact ⟨ret_b HV.out, (Below.refl _ _).alloc (Nat.le_refl _) _⟩
  by_cases c2 : f < 1
  · skip
    have HV := Lib.hid (show false = Fr.okB ⟨t, f, k, s.data.toList⟩ by symm; unfold Fr.okB; rw [hsz]; simp; omega)
    clear hsz
    go_enter Tryd.func16, Tryd.ntmps16
    go_wp2_with fail
    go_ret
    exact ⟨ret_b HV.out, (Below.refl _ _).alloc (Nat.le_refl _) _⟩
  by_cases c3 : 65534 < f
  · skip
    have HV := Lib.hid (show false = Fr.okB ⟨t, f, k, s.data.toList⟩ by symm; unfold Fr.okB; rw [hsz]; simp; omega)
    clear hsz
    go_enter Tryd.func16, Tryd.ntmps16
    go_wp2_with fail
    go_ret
    exact ⟨ret_b HV.out, (Below.refl _ _).alloc (Nat.le_refl _) _⟩
  by_cases k1 : k = 1
  · subst k1
    have HV := Lib.hid (show decide ((s.size : Int) ≤ 1024) = Fr.okB ⟨t, f, 1, s.data.toList⟩ by symm; unfold Fr.okB; rw [hsz]; dsimp only; rw [decide_eq_decide]; omega)
    clear hsz
    go_enter Tryd.func16, Tryd.ntmps16
    go_wp2_with fail
    go_ret
    exact ⟨ret_b HV.out, (Below.refl _ _).alloc (Nat.le_refl _) _⟩
  by_cases k2 : k = 2
  · subst k2
    have HV := Lib.hid (show decide ((s.size : Int) ≤ 1024) = Fr.okB ⟨t, f, 2, s.data.toList⟩ by symm; unfold Fr.okB; rw [hsz]; dsimp only; rw [decide_eq_decide]; omega)
    clear hsz
    go_enter Tryd.func16, Tryd.ntmps16
    go_wp2_with fail
    go_ret
    exact ⟨ret_b HV.out, (Below.refl _ _).alloc (Nat.le_refl _) _⟩
  have b1 : (k == 1) = false := by rw [beq_eq_false_iff_ne]; exact k1
  have b2 : (k == 2) = false := by rw [beq_eq_false_iff_ne]; exact k2
  have HV := Lib.hid (show false = Fr.okB ⟨t, f, k, s.data.toList⟩ by symm; unfold Fr.okB; rw [hsz]; simp; omega)
  clear hsz
  go_enter Tryd.func16, Tryd.ntmps16
  go_wp2_with fail
  go_ret
  exact ⟨ret_b HV.out, (Below.refl _ _).alloc (Nat.le_refl _) _⟩
end Go.Proofs.YtldmkoicjpkdiaaDoor
