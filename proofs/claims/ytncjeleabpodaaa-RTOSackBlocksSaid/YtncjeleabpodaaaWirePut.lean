/- wire.Put: the big-endian encoding, or ErrWire. -/
import Derived.Test.YtncjeleabpodaaaRows
import Derived.Test.YtncjeleabpodaaaWirePlain
import Derived.WalkKit
import Derived.WalkSpells
import Derived.WalkLawsBesides
import Derived.Lib.Hide
import Derived.Laws.BitsAllLaws
import Derived.Laws.Rows
import Derived.Laws.CopyRow
import Derived.Laws.IdiomStrings
import Derived.IntWalk
namespace Go.Proofs.Ytncjeleabpodaaa
open Go.RowKit
theorem setRow_alloc (w : World) (old new : Array Value) (t : TypeId) : (w.alloc (.cells old t)).setRow w.heap.size new = w.alloc (.cells new t) := by
  have h : (w.heap.push (.cells old t)).modify w.heap.size (fun o => match o with | .cells _ t f => .cells new t f | o => o) = w.heap.push (.cells new t) := by
    apply Array.ext
    · simp
    · intro i h1 h2
      rw [Array.getElem_modify, Array.getElem_push, Array.getElem_push]
      by_cases e : w.heap.size = i
      · subst e; simp
      · rw [if_neg e]
        have : i < w.heap.size := by simp at h2; omega
        simp [this]
  show ({ w with heap := (w.heap.push (.cells old t)).modify w.heap.size _ } : World) = { w with heap := w.heap.push (.cells new t) }
  rw [← h]
  rfl
def byteVals (l : List UInt8) : Array Value := (l.map fun c => Value.int .u8 (c.toNat : Int)).toArray
theorem conv_new (W : World) (l : List UInt8) (t : TypeId) : (convert 27 9 (.slice (some ⟨W.heap.size, 0, none⟩) l.length l.length)).run Try.prog (W.alloc (.cells (byteVals l) t)) = .ok (.string ⟨l.toArray⟩) (W.alloc (.cells (byteVals l) t)) := by
  refine run_convert_bytes_back _ _ _ 5 _ _ l Try.underlying27 Try.underlying5 Try.underlying9 fun j hj => ?_
  have e : (⟨W.heap.size, 0, none⟩ : Addr).add j = ⟨W.heap.size, j, none⟩ := by unfold Addr.add; split <;> simp_all
  rw [e, cell_of_row _ _ _ _ _ _ (heap_alloc_new _ _)]
  simp [byteVals, hj]
theorem u8of (n : Nat) : (UInt8.ofNat (n % 256)).toNat = n % 256 := by simp
/-- What Put returns. -/
def putS (n b : Int) : ByteArray := if 1 ≤ b ∧ b ≤ 4 ∧ 0 ≤ n ∧ n < 256 ^ b.toNat then ⟨(be b.toNat n.toNat).toArray⟩ else ⟨#[]⟩
def wputE (n b : Int) : Int := if 1 ≤ b ∧ b ≤ 4 ∧ 0 ≤ n ∧ n < 256 ^ b.toNat then 0 else 10
theorem ret_put {a b : ByteArray} {c d : Int} (h : a = b) (h' : c = d) : Ending.returned (.tuple #[.string a, .int .i64 c]) = .returned (.tuple #[.string b, .int .i64 d]) := by rw [h, h']
theorem mk1 (w : World) : (Instr.makeSlice 27 (.int .i64 1) (.int .i64 1)).run Try.prog w = .ok (.slice (some ⟨w.heap.size, 0, none⟩) 1 1) (w.alloc (.cells #[.int .u8 0] 5)) := by kernel_rfl
theorem cp1 (w : World) (x0 x1 x2 x3 : Int) (T : TypeId) : (Builtin.copy_ #[27, 27] 3 #[.slice (some ⟨w.heap.size + 1, 0, none⟩) 1 1, .slice (some ⟨w.heap.size, 3, none⟩) 1 1]).run Try.prog ((w.alloc (.cells #[.int .u8 x0, .int .u8 x1, .int .u8 x2, .int .u8 x3] T)).alloc (.cells #[.int .u8 0] 5)) =
    .ok (.int .i64 1) ((w.alloc (.cells #[.int .u8 x0, .int .u8 x1, .int .u8 x2, .int .u8 x3] T)).alloc (.cells #[.int .u8 x3] 5)) := by
  have h := run_copy_row (P := Try.prog) ((w.alloc (.cells #[.int .u8 x0, .int .u8 x1, .int .u8 x2, .int .u8 x3] T)).alloc (.cells #[.int .u8 0] 5)) 27 27 3 5 (w.heap.size + 1) 0 1 1 ⟨w.heap.size, 3, none⟩ 1 1 #[.int .u8 0] 5 [.int .u8 x3] Try.underlying27 (by kernel_rfl) (heap_alloc2_new _ _ _) rfl ?_ (by simp) (by intro v hv; simp at hv; subst hv; rfl)
  · rw [h]
    have e := setRow_alloc (w.alloc (.cells #[.int .u8 x0, .int .u8 x1, .int .u8 x2, .int .u8 x3] T)) #[.int .u8 0] #[.int .u8 x3] 5
    rw [World.size_alloc] at e
    exact congrArg (Result.ok (Value.int .i64 1)) e
  · intro j v hj
    have e : (⟨w.heap.size, 3, none⟩ : Addr).add j = ⟨w.heap.size, 3 + j, none⟩ := by unfold Addr.add; split <;> simp_all
    rw [e, cell_of_row _ _ _ _ _ _ (heap_alloc2_old _ _ _)]
    match j, hj with
    | 0, hj => simpa using hj
    | j + 1, hj => simp at hj
theorem bv1 (m : Nat) (hm : m < 256) : (#[.int .u8 ((m : Int))] : Array Value) = byteVals (be 1 m) := by
  simp [byteVals, be]
  omega
set_option maxHeartbeats 400000 in
theorem put1_any (m : Nat) (hm : m < 256) (w : World) :
    Calls Try.prog 88 #[.int .i64 m, .int .i64 1] w fun e w' => e = .returned (.tuple #[.string ⟨(be 1 m).toArray⟩, .int .i64 0]) ∧ Below w.heap.size w w' := by
  have hmk := mk1
  have hcp := cp1 w
  have hnz : ((m : Int) / 256 != 0) = false := by simp; omega
  have hcv := fun o => conv_new (w.alloc o) (be 1 m) 5
  rw [be_length, ← bv1 m hm] at hcv
  simp only [World.size_alloc] at hcv
  generalize (⟨(be 1 m).toArray⟩ : ByteArray) = S at hcv ⊢
  go_enter Try.func88, Try.ntmps88
  go_wp2
  go_ret2
  exact ⟨rfl, ((Below.refl _ _).alloc (Nat.le_refl _) _).alloc (by simp) _⟩
theorem mk2 (w : World) : (Instr.makeSlice 27 (.int .i64 2) (.int .i64 2)).run Try.prog w = .ok (.slice (some ⟨w.heap.size, 0, none⟩) 2 2) (w.alloc (.cells #[.int .u8 0, .int .u8 0] 5)) := by kernel_rfl
theorem cp2 (w : World) (x0 x1 x2 x3 : Int) (T : TypeId) : (Builtin.copy_ #[27, 27] 3 #[.slice (some ⟨w.heap.size + 1, 0, none⟩) 2 2, .slice (some ⟨w.heap.size, 2, none⟩) 2 2]).run Try.prog ((w.alloc (.cells #[.int .u8 x0, .int .u8 x1, .int .u8 x2, .int .u8 x3] T)).alloc (.cells #[.int .u8 0, .int .u8 0] 5)) =
    .ok (.int .i64 2) ((w.alloc (.cells #[.int .u8 x0, .int .u8 x1, .int .u8 x2, .int .u8 x3] T)).alloc (.cells #[.int .u8 x2, .int .u8 x3] 5)) := by
  have h := run_copy_row (P := Try.prog) ((w.alloc (.cells #[.int .u8 x0, .int .u8 x1, .int .u8 x2, .int .u8 x3] T)).alloc (.cells #[.int .u8 0, .int .u8 0] 5)) 27 27 3 5 (w.heap.size + 1) 0 2 2 ⟨w.heap.size, 2, none⟩ 2 2 #[.int .u8 0, .int .u8 0] 5 [.int .u8 x2, .int .u8 x3] Try.underlying27 (by kernel_rfl) (heap_alloc2_new _ _ _) rfl ?_ (by simp) (by intro v hv; simp at hv; rcases hv with rfl | rfl <;> rfl)
  · rw [h]
    have e := setRow_alloc (w.alloc (.cells #[.int .u8 x0, .int .u8 x1, .int .u8 x2, .int .u8 x3] T)) #[.int .u8 0, .int .u8 0] #[.int .u8 x2, .int .u8 x3] 5
    rw [World.size_alloc] at e
    exact congrArg (Result.ok (Value.int .i64 2)) e
  · intro j v hj
    have e : (⟨w.heap.size, 2, none⟩ : Addr).add j = ⟨w.heap.size, 2 + j, none⟩ := by unfold Addr.add; split <;> simp_all
    rw [e, cell_of_row _ _ _ _ _ _ (heap_alloc2_old _ _ _)]
    match j, hj with
    | 0, hj => simpa using hj
    | 1, hj => simpa using hj
    | j + 2, hj => simp at hj
theorem bv2 (m : Nat) (hm : m < 65536) : (#[.int .u8 ((m : Int) / 256), .int .u8 ((m : Int) % 256)] : Array Value) = byteVals (be 2 m) := by
  simp [byteVals, be]
  omega
set_option maxHeartbeats 400000 in
theorem put2_any (m : Nat) (hm : m < 65536) (w : World) :
    Calls Try.prog 88 #[.int .i64 m, .int .i64 2] w fun e w' => e = .returned (.tuple #[.string ⟨(be 2 m).toArray⟩, .int .i64 0]) ∧ Below w.heap.size w w' := by
  have hmk := mk2
  have hcp := cp2 w
  have hnz : ((m : Int) / 65536 != 0) = false := by simp; omega
  have hcv := fun o => conv_new (w.alloc o) (be 2 m) 5
  rw [be_length, ← bv2 m hm] at hcv
  simp only [World.size_alloc] at hcv
  generalize (⟨(be 2 m).toArray⟩ : ByteArray) = S at hcv ⊢
  go_enter Try.func88, Try.ntmps88
  go_wp2
  go_ret2
  exact ⟨rfl, ((Below.refl _ _).alloc (Nat.le_refl _) _).alloc (by simp) _⟩
theorem mk3 (w : World) : (Instr.makeSlice 27 (.int .i64 3) (.int .i64 3)).run Try.prog w = .ok (.slice (some ⟨w.heap.size, 0, none⟩) 3 3) (w.alloc (.cells #[.int .u8 0, .int .u8 0, .int .u8 0] 5)) := by kernel_rfl
theorem cp3 (w : World) (x0 x1 x2 x3 : Int) (T : TypeId) : (Builtin.copy_ #[27, 27] 3 #[.slice (some ⟨w.heap.size + 1, 0, none⟩) 3 3, .slice (some ⟨w.heap.size, 1, none⟩) 3 3]).run Try.prog ((w.alloc (.cells #[.int .u8 x0, .int .u8 x1, .int .u8 x2, .int .u8 x3] T)).alloc (.cells #[.int .u8 0, .int .u8 0, .int .u8 0] 5)) =
    .ok (.int .i64 3) ((w.alloc (.cells #[.int .u8 x0, .int .u8 x1, .int .u8 x2, .int .u8 x3] T)).alloc (.cells #[.int .u8 x1, .int .u8 x2, .int .u8 x3] 5)) := by
  have h := run_copy_row (P := Try.prog) ((w.alloc (.cells #[.int .u8 x0, .int .u8 x1, .int .u8 x2, .int .u8 x3] T)).alloc (.cells #[.int .u8 0, .int .u8 0, .int .u8 0] 5)) 27 27 3 5 (w.heap.size + 1) 0 3 3 ⟨w.heap.size, 1, none⟩ 3 3 #[.int .u8 0, .int .u8 0, .int .u8 0] 5 [.int .u8 x1, .int .u8 x2, .int .u8 x3] Try.underlying27 (by kernel_rfl) (heap_alloc2_new _ _ _) rfl ?_ (by simp) (by intro v hv; simp at hv; rcases hv with rfl | rfl | rfl <;> rfl)
  · rw [h]
    have e := setRow_alloc (w.alloc (.cells #[.int .u8 x0, .int .u8 x1, .int .u8 x2, .int .u8 x3] T)) #[.int .u8 0, .int .u8 0, .int .u8 0] #[.int .u8 x1, .int .u8 x2, .int .u8 x3] 5
    rw [World.size_alloc] at e
    exact congrArg (Result.ok (Value.int .i64 3)) e
  · intro j v hj
    have e : (⟨w.heap.size, 1, none⟩ : Addr).add j = ⟨w.heap.size, 1 + j, none⟩ := by unfold Addr.add; split <;> simp_all
    rw [e, cell_of_row _ _ _ _ _ _ (heap_alloc2_old _ _ _)]
    match j, hj with
    | 0, hj => simpa using hj
    | 1, hj => simpa using hj
    | 2, hj => simpa using hj
    | j + 3, hj => simp at hj
theorem bv3 (m : Nat) (hm : m < 16777216) : (#[.int .u8 ((m : Int) / 65536), .int .u8 ((m : Int) / 256 % 256), .int .u8 ((m : Int) % 256)] : Array Value) = byteVals (be 3 m) := by
  simp [byteVals, be]
  omega
set_option maxHeartbeats 400000 in
theorem put3_any (m : Nat) (hm : m < 16777216) (w : World) :
    Calls Try.prog 88 #[.int .i64 m, .int .i64 3] w fun e w' => e = .returned (.tuple #[.string ⟨(be 3 m).toArray⟩, .int .i64 0]) ∧ Below w.heap.size w w' := by
  have hmk := mk3
  have hcp := cp3 w
  have hnz : ((m : Int) / 16777216 != 0) = false := by simp; omega
  have hcv := fun o => conv_new (w.alloc o) (be 3 m) 5
  rw [be_length, ← bv3 m hm] at hcv
  simp only [World.size_alloc] at hcv
  generalize (⟨(be 3 m).toArray⟩ : ByteArray) = S at hcv ⊢
  go_enter Try.func88, Try.ntmps88
  go_wp2
  go_ret2
  exact ⟨rfl, ((Below.refl _ _).alloc (Nat.le_refl _) _).alloc (by simp) _⟩
theorem mk4 (w : World) : (Instr.makeSlice 27 (.int .i64 4) (.int .i64 4)).run Try.prog w = .ok (.slice (some ⟨w.heap.size, 0, none⟩) 4 4) (w.alloc (.cells #[.int .u8 0, .int .u8 0, .int .u8 0, .int .u8 0] 5)) := by kernel_rfl
theorem cp4 (w : World) (x0 x1 x2 x3 : Int) (T : TypeId) : (Builtin.copy_ #[27, 27] 3 #[.slice (some ⟨w.heap.size + 1, 0, none⟩) 4 4, .slice (some ⟨w.heap.size, 0, none⟩) 4 4]).run Try.prog ((w.alloc (.cells #[.int .u8 x0, .int .u8 x1, .int .u8 x2, .int .u8 x3] T)).alloc (.cells #[.int .u8 0, .int .u8 0, .int .u8 0, .int .u8 0] 5)) =
    .ok (.int .i64 4) ((w.alloc (.cells #[.int .u8 x0, .int .u8 x1, .int .u8 x2, .int .u8 x3] T)).alloc (.cells #[.int .u8 x0, .int .u8 x1, .int .u8 x2, .int .u8 x3] 5)) := by
  have h := run_copy_row (P := Try.prog) ((w.alloc (.cells #[.int .u8 x0, .int .u8 x1, .int .u8 x2, .int .u8 x3] T)).alloc (.cells #[.int .u8 0, .int .u8 0, .int .u8 0, .int .u8 0] 5)) 27 27 3 5 (w.heap.size + 1) 0 4 4 ⟨w.heap.size, 0, none⟩ 4 4 #[.int .u8 0, .int .u8 0, .int .u8 0, .int .u8 0] 5 [.int .u8 x0, .int .u8 x1, .int .u8 x2, .int .u8 x3] Try.underlying27 (by kernel_rfl) (heap_alloc2_new _ _ _) rfl ?_ (by simp) (by intro v hv; simp at hv; rcases hv with rfl | rfl | rfl | rfl <;> rfl)
  · rw [h]
    have e := setRow_alloc (w.alloc (.cells #[.int .u8 x0, .int .u8 x1, .int .u8 x2, .int .u8 x3] T)) #[.int .u8 0, .int .u8 0, .int .u8 0, .int .u8 0] #[.int .u8 x0, .int .u8 x1, .int .u8 x2, .int .u8 x3] 5
    rw [World.size_alloc] at e
    exact congrArg (Result.ok (Value.int .i64 4)) e
  · intro j v hj
    have e : (⟨w.heap.size, 0, none⟩ : Addr).add j = ⟨w.heap.size, 0 + j, none⟩ := by unfold Addr.add; split <;> simp_all
    rw [e, cell_of_row _ _ _ _ _ _ (heap_alloc2_old _ _ _)]
    match j, hj with
    | 0, hj => simpa using hj
    | 1, hj => simpa using hj
    | 2, hj => simpa using hj
    | 3, hj => simpa using hj
    | j + 4, hj => simp at hj
theorem bv4 (m : Nat) (hm : m < 4294967296) : (#[.int .u8 ((m : Int) / 16777216), .int .u8 ((m : Int) / 65536 % 256), .int .u8 ((m : Int) / 256 % 256), .int .u8 ((m : Int) % 256)] : Array Value) = byteVals (be 4 m) := by
  simp [byteVals, be]
  omega
set_option maxHeartbeats 400000 in
theorem put4_any (m : Nat) (hm : m < 4294967296) (w : World) :
    Calls Try.prog 88 #[.int .i64 m, .int .i64 4] w fun e w' => e = .returned (.tuple #[.string ⟨(be 4 m).toArray⟩, .int .i64 0]) ∧ Below w.heap.size w w' := by
  have hmk := mk4
  have hcp := cp4 w
  have hnz : ((m : Int) / 4294967296 != 0) = false := by simp; omega
  have hcv := fun o => conv_new (w.alloc o) (be 4 m) 5
  rw [be_length, ← bv4 m hm] at hcv
  simp only [World.size_alloc] at hcv
  generalize (⟨(be 4 m).toArray⟩ : ByteArray) = S at hcv ⊢
  go_enter Try.func88, Try.ntmps88
  go_wp2
  go_ret2
  exact ⟨rfl, ((Below.refl _ _).alloc (Nat.le_refl _) _).alloc (by simp) _⟩
theorem putS_no (n b : Int) (h : ¬ (1 ≤ b ∧ b ≤ 4 ∧ 0 ≤ n ∧ n < 256 ^ b.toNat)) : putS n b = ⟨#[]⟩ ∧ wputE n b = 10 := by
  unfold putS wputE; rw [if_neg h, if_neg h]; exact ⟨rfl, rfl⟩
theorem putS_yes (m b : Nat) (h1 : 1 ≤ b) (h4 : b ≤ 4) (h : m < 256 ^ b) : putS m b = ⟨(be b m).toArray⟩ ∧ wputE m b = 0 := by
  have hh : 1 ≤ (b : Int) ∧ (b : Int) ≤ 4 ∧ 0 ≤ (m : Int) ∧ (m : Int) < 256 ^ (b : Int).toNat := by
    refine ⟨by omega, by omega, by omega, ?_⟩
    rw [Int.toNat_natCast]
    have e : ((256 ^ b : Nat) : Int) = (256 : Int) ^ b := Int.natCast_pow 256 b
    rw [← e]
    exact Int.ofNat_lt.2 h
  unfold putS wputE; rw [if_pos hh, if_pos hh]; simp
set_option maxHeartbeats 400000 in
theorem put_out (n b : Int) (w : World) (h : b < 1 ∨ 4 < b ∨ n < 0) :
    Calls Try.prog 88 #[.int .i64 n, .int .i64 b] w fun e w' => e = .returned (.tuple #[.string ⟨#[]⟩, .int .i64 10]) ∧ Below w.heap.size w w' := by
  by_cases c1 : b < 1
  · clear h
    go_enter Try.func88, Try.ntmps88
    go_wp2
    go_ret2
    exact ⟨rfl, Below.refl _ _⟩
  · by_cases c2 : 4 < b
    · clear h
      go_enter Try.func88, Try.ntmps88
      go_wp2
      go_ret2
      exact ⟨rfl, Below.refl _ _⟩
    · have c3 : n < 0 := by omega
      clear h
      go_enter Try.func88, Try.ntmps88
      go_wp2
      go_ret2
      exact ⟨rfl, Below.refl _ _⟩
set_option maxHeartbeats 400000 in
theorem put1_big (m : Nat) (hm : 256 ≤ m) (hm2 : m ≤ 9223372036854775807) (w : World) :
    Calls Try.prog 88 #[.int .i64 m, .int .i64 1] w fun e w' => e = .returned (.tuple #[.string ⟨#[]⟩, .int .i64 10]) ∧ Below w.heap.size w w' := by
  have hnz : ((m : Int) / 256 != 0) = true := by simp; omega
  go_enter Try.func88, Try.ntmps88
  go_wp2
  go_ret2
  exact ⟨rfl, Below.refl _ _⟩
set_option maxHeartbeats 400000 in
theorem put2_big (m : Nat) (hm : 65536 ≤ m) (hm2 : m ≤ 9223372036854775807) (w : World) :
    Calls Try.prog 88 #[.int .i64 m, .int .i64 2] w fun e w' => e = .returned (.tuple #[.string ⟨#[]⟩, .int .i64 10]) ∧ Below w.heap.size w w' := by
  have hnz : ((m : Int) / 65536 != 0) = true := by simp; omega
  go_enter Try.func88, Try.ntmps88
  go_wp2
  go_ret2
  exact ⟨rfl, Below.refl _ _⟩
set_option maxHeartbeats 400000 in
theorem put3_big (m : Nat) (hm : 16777216 ≤ m) (hm2 : m ≤ 9223372036854775807) (w : World) :
    Calls Try.prog 88 #[.int .i64 m, .int .i64 3] w fun e w' => e = .returned (.tuple #[.string ⟨#[]⟩, .int .i64 10]) ∧ Below w.heap.size w w' := by
  have hnz : ((m : Int) / 16777216 != 0) = true := by simp; omega
  go_enter Try.func88, Try.ntmps88
  go_wp2
  go_ret2
  exact ⟨rfl, Below.refl _ _⟩
set_option maxHeartbeats 400000 in
theorem put4_big (m : Nat) (hm : 4294967296 ≤ m) (hm2 : m ≤ 9223372036854775807) (w : World) :
    Calls Try.prog 88 #[.int .i64 m, .int .i64 4] w fun e w' => e = .returned (.tuple #[.string ⟨#[]⟩, .int .i64 10]) ∧ Below w.heap.size w w' := by
  have hnz : ((m : Int) / 4294967296 != 0) = true := by simp; omega
  go_enter Try.func88, Try.ntmps88
  go_wp2
  go_ret2
  exact ⟨rfl, Below.refl _ _⟩
/-- Put, at every number and every count. -/
theorem wput_any (n b : Int) (hn : n ≤ 9223372036854775807) (w : World) :
    Calls Try.prog 88 #[.int .i64 n, .int .i64 b] w fun e w' => e = .returned (.tuple #[.string (putS n b), .int .i64 (wputE n b)]) ∧ Below w.heap.size w w' := by
  by_cases h : b < 1 ∨ 4 < b ∨ n < 0
  · obtain ⟨e1, e2⟩ := putS_no n b (by omega)
    rw [e1, e2]
    exact put_out n b w h
  · obtain ⟨m, rfl⟩ := Int.eq_ofNat_of_zero_le (show 0 ≤ n by omega)
    rcases (show b = 1 ∨ b = 2 ∨ b = 3 ∨ b = 4 by omega) with rfl | rfl | rfl | rfl
    · by_cases hm : m < 256
      · obtain ⟨e1, e2⟩ := putS_yes m 1 (by omega) (by omega) (by simpa using hm)
        rw [show ((1 : Nat) : Int) = 1 from rfl] at e1 e2
        rw [e1, e2]
        exact put1_any m hm w
      · obtain ⟨e1, e2⟩ := putS_no m 1 (by simp; omega)
        rw [e1, e2]
        exact put1_big m (by omega) (by omega) w
    · by_cases hm : m < 65536
      · obtain ⟨e1, e2⟩ := putS_yes m 2 (by omega) (by omega) (by simpa using hm)
        rw [show ((2 : Nat) : Int) = 2 from rfl] at e1 e2
        rw [e1, e2]
        exact put2_any m hm w
      · obtain ⟨e1, e2⟩ := putS_no m 2 (by simp; omega)
        rw [e1, e2]
        exact put2_big m (by omega) (by omega) w
    · by_cases hm : m < 16777216
      · obtain ⟨e1, e2⟩ := putS_yes m 3 (by omega) (by omega) (by simpa using hm)
        rw [show ((3 : Nat) : Int) = 3 from rfl] at e1 e2
        rw [e1, e2]
        exact put3_any m hm w
      · obtain ⟨e1, e2⟩ := putS_no m 3 (by simp; omega)
        rw [e1, e2]
        exact put3_big m (by omega) (by omega) w
    · by_cases hm : m < 4294967296
      · obtain ⟨e1, e2⟩ := putS_yes m 4 (by omega) (by omega) (by simpa using hm)
        rw [show ((4 : Nat) : Int) = 4 from rfl] at e1 e2
        rw [e1, e2]
        exact put4_any m hm w
      · obtain ⟨e1, e2⟩ := putS_no m 4 (by simp; omega)
        rw [e1, e2]
        exact put4_big m (by omega) (by omega) w
end Go.Proofs.Ytncjeleabpodaaa

