/- The reader's iterator over the four fields. -/
import Derived.Test.YtldmkoicjpkdiaaDoorLkText
import Derived.RangeFuncNested
import Derived.RangeFuncBound
import Derived.RangeFuncCalls
import Derived.RangeFuncLeaves
import Derived.Shelf.Abstract
import Derived.Shelf.RegionOpen
import Derived.OwnWalkIn
import Derived.TacticsInMore
import Derived.LoopNIn
import Derived.LoopIn
namespace Go.Proofs.YtldmkoicjpkdiaaDoor
open Go.RowKit Go.Shelf
attribute [local go_sem] Oper.semAt_some
/-- A field: the number in b bytes from offset a on, if they are there. -/
def fo (l : List UInt8) (a b : Nat) : Option Nat := if a + b ≤ l.length then some (unbe ((l.drop a).take b)) else none
def flds (l : List UInt8) : List (Option Nat) := [fo l 0 2, fo l 2 2, fo l 4 1, fo l 5 2]
/-- What is yielded for a field. -/
def foV (a : Addr) : Option Nat → Array Value
  | some n => #[.int .i64 (n : Int), .nilIface]
  | none => #[.int .i64 0, .iface 91 (.pointer (some a))]
theorem number_fo (s : ByteArray) (hs : s.size ≤ 9223372036854775807) (at_ b : Nat) (h1 : 1 ≤ b) (h2 : b ≤ 4) (a : Addr) (w : World) (he : ErrS a w) :
    Calls Tryd.prog 30 #[.string s, .int .i64 at_, .int .i64 b] w fun e w' => e = .returned (.tuple (foV a (fo s.data.toList at_ b))) ∧ Below w.heap.size w w' := by
  have hsz : s.data.toList.length = s.size := by rw [Array.length_toList]; rfl
  unfold fo
  by_cases h : at_ + b ≤ s.size
  · rw [if_pos (by omega)]
    exact number_yes s hs at_ b h1 h2 h w
  · rw [if_neg (by omega)]
    exact number_no s hs at_ b h a w he
/-- The offset of field k. -/
def atK : Nat → Nat
  | 0 => 0 | 1 => 2 | 2 => 4 | 3 => 5 | _ => 7
set_option maxRecDepth 100000 in
set_option maxHeartbeats 2000000 in
theorem fixed1_in (n : Nat) (hn : 1 ≤ n) (l Bn : Nat) (s : ByteArray) (hs : s.size ≤ 9223372036854775807) (a : Addr) (N0 : Nat) (J Jx : List (Option Nat) → World → Prop)
    (hY : ∀ pre x W, J pre W → pre.length < 4 → YieldAt Fence.wide (n - 1) Tryd.prog l (foV a x) W fun e W' =>
      (e = .returned (.bool true) ∧ J (pre ++ [x]) W' ∧ (W'.cell? ⟨Bn, 0, none⟩ = W.cell? ⟨Bn, 0, none⟩ ∧ Below N0 W W')) ∨ (e = .returned (.bool false) ∧ Jx (pre ++ [x]) W'))
    (W : World) (hJ : ∀ pre A A', J pre A → A.grownBy A' none → J pre A') (hBn : W.cell? ⟨Bn, 0, none⟩ = some (.string s)) (he : ErrS a W) (hN0 : 0 < N0) (h0 : J [] W) :
    CallsIn Fence.wide n Tryd.prog 39 #[.func (.yield l) #[] #[], .pointer (some ⟨Bn, 0, none⟩)] W fun e W' => (∃ v, e = .returned v) ∧
      ((∃ ys, ys = flds s.data.toList ∧ J ys W') ∨ (∃ pre, pre <+: flds s.data.toList ∧ Jx pre W')) := by
  refine callsIn_of_wp Tryd.func39 rfl trivial ?_ rfl
  simp only [Tryd.ntmps39, List.size_toArray, List.length_cons, List.length_nil, Nat.reduceAdd, Nat.reduceSub, Array.replicate_succ, Array.replicate_zero, List.push_toArray, List.append_toArray, List.nil_append, List.cons_append]
  have i0 : ∀ w, (Instr.index 52 (.agg #[.int .i64 2, .int .i64 2, .int .i64 1, .int .i64 2]) (.int .i64 0)).run Tryd.prog w = .ok (.int .i64 2) w := fun _ => by kernel_rfl
  have i1 : ∀ w, (Instr.index 52 (.agg #[.int .i64 2, .int .i64 2, .int .i64 1, .int .i64 2]) (.int .i64 1)).run Tryd.prog w = .ok (.int .i64 2) w := fun _ => by kernel_rfl
  have i2 : ∀ w, (Instr.index 52 (.agg #[.int .i64 2, .int .i64 2, .int .i64 1, .int .i64 2]) (.int .i64 2)).run Tryd.prog w = .ok (.int .i64 1) w := fun _ => by kernel_rfl
  have i3 : ∀ w, (Instr.index 52 (.agg #[.int .i64 2, .int .i64 2, .int .i64 1, .int .i64 2]) (.int .i64 3)).run Tryd.prog w = .ok (.int .i64 2) w := fun _ => by kernel_rfl
  have HY := Lib.hid hY
  have HJ := Lib.hid hJ
  clear hY hJ
  gi_wp2
  gi_loopw [3, 7] (fun p q wr => ∃ k : Nat, k ≤ 4 ∧ q = .int .i64 k ∧ p = .int .i64 (atK k) ∧ wr.cell? ⟨Bn, 0, none⟩ = some (.string s) ∧ ErrS a wr ∧ J ((flds s.data.toList).take k) wr) (fun _ q _ => 4 - (intOf q).toNat)
  case atStart => exact ⟨0, by omega, rfl, rfl, hBn, he, h0⟩
  case round =>
    clear hBn he h0
    obtain ⟨k, hk, rfl, rfl, hc, hE, hJk⟩ := hrel
    rcases (show k = 0 ∨ k = 1 ∨ k = 2 ∨ k = 3 ∨ k = 4 by omega) with rfl | rfl | rfl | rfl | rfl
    · have HT := Lib.hid (show (flds s.data.toList).take 0 ++ [fo s.data.toList 0 2] = (flds s.data.toList).take 1 from rfl)
      have HPF := Lib.hid (List.take_prefix 1 (flds s.data.toList))
      have hnum : ∀ W, ErrS a W → Calls Tryd.prog 30 #[.string s, .int .i64 0, .int .i64 2] W fun e w' => e = .returned (.tuple (foV a (fo s.data.toList 0 2))) ∧ Below W.heap.size W w' := fun W h => number_fo s hs 0 2 (by omega) (by omega) a W h
      have HNUM := Lib.hid hnum
      clear hnum
      have hlen : ((flds s.data.toList).take 0).length < 4 := by rw [List.length_take]; show min 0 4 < 4; omega
      have ha : (atK 0 : Int) = 0 := rfl
      have hq : (((0 : Nat)) : Int) = 0 := rfl
      rw [ha, hq]
      clear ha hq
      generalize fo s.data.toList 0 2 = x at *
      generalize (flds s.data.toList).take 0 = pre at *
      gi_wp2_with fail
      refine ⟨trivial, (callsIn_wide.2 (HNUM.out _ hE)).mono ?_⟩
      rintro e w1 ⟨rfl, hb1⟩
      have hJ1 := HJ.out _ _ _ hJk ⟨hb1.os, hb1.tape, hb1.output, hb1.size, fun i hi _ => hb1.block i hi⟩
      have hc1 := (hb1.cell (p := ⟨Bn, 0, none⟩) (block_lt_of_cell hc)).trans hc
      have hE1 := hE.below hb1 hE.2
      clear hc hE hJk hb1
      obtain ⟨fn, tmps, assign, body, hy, hR⟩ := HY.out pre x w1 hJ1 hlen
      cases x with
      | some m =>
        dsimp only [foV] at hy ⊢
        gi_wp2
        refine hR.mono ?_
        rintro e W3 (⟨rfl, hJ3, hk3, hb3⟩ | ⟨rfl, hJx3⟩)
        · have hc3 := hk3.trans hc1
          have hE3 := hE1.below hb3 hN0
          gi_wp2
          go_roundw
          case rel => exact ⟨1, by omega, rfl, rfl, hc3, hE3, by rw [← HT.out]; exact hJ3⟩
          case measure => simp [intOf]
        · gi_wp2
          refine bodyPost_ret (results_none rfl _ _ _) rfl ?_
          exact ⟨⟨_, rfl⟩, .inr ⟨_, HPF.out, by rw [← HT.out]; exact hJx3⟩⟩
      | none =>
        dsimp only [foV] at hy ⊢
        gi_wp2
        refine hR.mono ?_
        rintro e W3 (⟨rfl, hJ3, hk3, hb3⟩ | ⟨rfl, hJx3⟩)
        · have hc3 := hk3.trans hc1
          have hE3 := hE1.below hb3 hN0
          gi_wp2
          go_roundw
          case rel => exact ⟨1, by omega, rfl, rfl, hc3, hE3, by rw [← HT.out]; exact hJ3⟩
          case measure => simp [intOf]
        · gi_wp2
          refine bodyPost_ret (results_none rfl _ _ _) rfl ?_
          exact ⟨⟨_, rfl⟩, .inr ⟨_, HPF.out, by rw [← HT.out]; exact hJx3⟩⟩
    · have HT := Lib.hid (show (flds s.data.toList).take 1 ++ [fo s.data.toList 2 2] = (flds s.data.toList).take 2 from rfl)
      have HPF := Lib.hid (List.take_prefix 2 (flds s.data.toList))
      have hnum : ∀ W, ErrS a W → Calls Tryd.prog 30 #[.string s, .int .i64 2, .int .i64 2] W fun e w' => e = .returned (.tuple (foV a (fo s.data.toList 2 2))) ∧ Below W.heap.size W w' := fun W h => number_fo s hs 2 2 (by omega) (by omega) a W h
      have HNUM := Lib.hid hnum
      clear hnum
      have hlen : ((flds s.data.toList).take 1).length < 4 := by rw [List.length_take]; show min 1 4 < 4; omega
      have ha : (atK 1 : Int) = 2 := rfl
      have hq : (((1 : Nat)) : Int) = 1 := rfl
      rw [ha, hq]
      clear ha hq
      generalize fo s.data.toList 2 2 = x at *
      generalize (flds s.data.toList).take 1 = pre at *
      gi_wp2_with fail
      refine ⟨trivial, (callsIn_wide.2 (HNUM.out _ hE)).mono ?_⟩
      rintro e w1 ⟨rfl, hb1⟩
      have hJ1 := HJ.out _ _ _ hJk ⟨hb1.os, hb1.tape, hb1.output, hb1.size, fun i hi _ => hb1.block i hi⟩
      have hc1 := (hb1.cell (p := ⟨Bn, 0, none⟩) (block_lt_of_cell hc)).trans hc
      have hE1 := hE.below hb1 hE.2
      clear hc hE hJk hb1
      obtain ⟨fn, tmps, assign, body, hy, hR⟩ := HY.out pre x w1 hJ1 hlen
      cases x with
      | some m =>
        dsimp only [foV] at hy ⊢
        gi_wp2
        refine hR.mono ?_
        rintro e W3 (⟨rfl, hJ3, hk3, hb3⟩ | ⟨rfl, hJx3⟩)
        · have hc3 := hk3.trans hc1
          have hE3 := hE1.below hb3 hN0
          gi_wp2
          go_roundw
          case rel => exact ⟨2, by omega, rfl, rfl, hc3, hE3, by rw [← HT.out]; exact hJ3⟩
          case measure => simp [intOf]
        · gi_wp2
          refine bodyPost_ret (results_none rfl _ _ _) rfl ?_
          exact ⟨⟨_, rfl⟩, .inr ⟨_, HPF.out, by rw [← HT.out]; exact hJx3⟩⟩
      | none =>
        dsimp only [foV] at hy ⊢
        gi_wp2
        refine hR.mono ?_
        rintro e W3 (⟨rfl, hJ3, hk3, hb3⟩ | ⟨rfl, hJx3⟩)
        · have hc3 := hk3.trans hc1
          have hE3 := hE1.below hb3 hN0
          gi_wp2
          go_roundw
          case rel => exact ⟨2, by omega, rfl, rfl, hc3, hE3, by rw [← HT.out]; exact hJ3⟩
          case measure => simp [intOf]
        · gi_wp2
          refine bodyPost_ret (results_none rfl _ _ _) rfl ?_
          exact ⟨⟨_, rfl⟩, .inr ⟨_, HPF.out, by rw [← HT.out]; exact hJx3⟩⟩
    · have HT := Lib.hid (show (flds s.data.toList).take 2 ++ [fo s.data.toList 4 1] = (flds s.data.toList).take 3 from rfl)
      have HPF := Lib.hid (List.take_prefix 3 (flds s.data.toList))
      have hnum : ∀ W, ErrS a W → Calls Tryd.prog 30 #[.string s, .int .i64 4, .int .i64 1] W fun e w' => e = .returned (.tuple (foV a (fo s.data.toList 4 1))) ∧ Below W.heap.size W w' := fun W h => number_fo s hs 4 1 (by omega) (by omega) a W h
      have HNUM := Lib.hid hnum
      clear hnum
      have hlen : ((flds s.data.toList).take 2).length < 4 := by rw [List.length_take]; show min 2 4 < 4; omega
      have ha : (atK 2 : Int) = 4 := rfl
      have hq : (((2 : Nat)) : Int) = 2 := rfl
      rw [ha, hq]
      clear ha hq
      generalize fo s.data.toList 4 1 = x at *
      generalize (flds s.data.toList).take 2 = pre at *
      gi_wp2_with fail
      refine ⟨trivial, (callsIn_wide.2 (HNUM.out _ hE)).mono ?_⟩
      rintro e w1 ⟨rfl, hb1⟩
      have hJ1 := HJ.out _ _ _ hJk ⟨hb1.os, hb1.tape, hb1.output, hb1.size, fun i hi _ => hb1.block i hi⟩
      have hc1 := (hb1.cell (p := ⟨Bn, 0, none⟩) (block_lt_of_cell hc)).trans hc
      have hE1 := hE.below hb1 hE.2
      clear hc hE hJk hb1
      obtain ⟨fn, tmps, assign, body, hy, hR⟩ := HY.out pre x w1 hJ1 hlen
      cases x with
      | some m =>
        dsimp only [foV] at hy ⊢
        gi_wp2
        refine hR.mono ?_
        rintro e W3 (⟨rfl, hJ3, hk3, hb3⟩ | ⟨rfl, hJx3⟩)
        · have hc3 := hk3.trans hc1
          have hE3 := hE1.below hb3 hN0
          gi_wp2
          go_roundw
          case rel => exact ⟨3, by omega, rfl, rfl, hc3, hE3, by rw [← HT.out]; exact hJ3⟩
          case measure => simp [intOf]
        · gi_wp2
          refine bodyPost_ret (results_none rfl _ _ _) rfl ?_
          exact ⟨⟨_, rfl⟩, .inr ⟨_, HPF.out, by rw [← HT.out]; exact hJx3⟩⟩
      | none =>
        dsimp only [foV] at hy ⊢
        gi_wp2
        refine hR.mono ?_
        rintro e W3 (⟨rfl, hJ3, hk3, hb3⟩ | ⟨rfl, hJx3⟩)
        · have hc3 := hk3.trans hc1
          have hE3 := hE1.below hb3 hN0
          gi_wp2
          go_roundw
          case rel => exact ⟨3, by omega, rfl, rfl, hc3, hE3, by rw [← HT.out]; exact hJ3⟩
          case measure => simp [intOf]
        · gi_wp2
          refine bodyPost_ret (results_none rfl _ _ _) rfl ?_
          exact ⟨⟨_, rfl⟩, .inr ⟨_, HPF.out, by rw [← HT.out]; exact hJx3⟩⟩
    · have HT := Lib.hid (show (flds s.data.toList).take 3 ++ [fo s.data.toList 5 2] = (flds s.data.toList).take 4 from rfl)
      have HPF := Lib.hid (List.take_prefix 4 (flds s.data.toList))
      have hnum : ∀ W, ErrS a W → Calls Tryd.prog 30 #[.string s, .int .i64 5, .int .i64 2] W fun e w' => e = .returned (.tuple (foV a (fo s.data.toList 5 2))) ∧ Below W.heap.size W w' := fun W h => number_fo s hs 5 2 (by omega) (by omega) a W h
      have HNUM := Lib.hid hnum
      clear hnum
      have hlen : ((flds s.data.toList).take 3).length < 4 := by rw [List.length_take]; show min 3 4 < 4; omega
      have ha : (atK 3 : Int) = 5 := rfl
      have hq : (((3 : Nat)) : Int) = 3 := rfl
      rw [ha, hq]
      clear ha hq
      generalize fo s.data.toList 5 2 = x at *
      generalize (flds s.data.toList).take 3 = pre at *
      gi_wp2_with fail
      refine ⟨trivial, (callsIn_wide.2 (HNUM.out _ hE)).mono ?_⟩
      rintro e w1 ⟨rfl, hb1⟩
      have hJ1 := HJ.out _ _ _ hJk ⟨hb1.os, hb1.tape, hb1.output, hb1.size, fun i hi _ => hb1.block i hi⟩
      have hc1 := (hb1.cell (p := ⟨Bn, 0, none⟩) (block_lt_of_cell hc)).trans hc
      have hE1 := hE.below hb1 hE.2
      clear hc hE hJk hb1
      obtain ⟨fn, tmps, assign, body, hy, hR⟩ := HY.out pre x w1 hJ1 hlen
      cases x with
      | some m =>
        dsimp only [foV] at hy ⊢
        gi_wp2
        refine hR.mono ?_
        rintro e W3 (⟨rfl, hJ3, hk3, hb3⟩ | ⟨rfl, hJx3⟩)
        · have hc3 := hk3.trans hc1
          have hE3 := hE1.below hb3 hN0
          gi_wp2
          go_roundw
          case rel => exact ⟨4, by omega, rfl, rfl, hc3, hE3, by rw [← HT.out]; exact hJ3⟩
          case measure => simp [intOf]
        · gi_wp2
          refine bodyPost_ret (results_none rfl _ _ _) rfl ?_
          exact ⟨⟨_, rfl⟩, .inr ⟨_, HPF.out, by rw [← HT.out]; exact hJx3⟩⟩
      | none =>
        dsimp only [foV] at hy ⊢
        gi_wp2
        refine hR.mono ?_
        rintro e W3 (⟨rfl, hJ3, hk3, hb3⟩ | ⟨rfl, hJx3⟩)
        · have hc3 := hk3.trans hc1
          have hE3 := hE1.below hb3 hN0
          gi_wp2
          go_roundw
          case rel => exact ⟨4, by omega, rfl, rfl, hc3, hE3, by rw [← HT.out]; exact hJ3⟩
          case measure => simp [intOf]
        · gi_wp2
          refine bodyPost_ret (results_none rfl _ _ _) rfl ?_
          exact ⟨⟨_, rfl⟩, .inr ⟨_, HPF.out, by rw [← HT.out]; exact hJx3⟩⟩
    · gi_wp2
      go_end0
      exact ⟨⟨_, rfl⟩, .inl ⟨_, rfl, hJk⟩⟩
end Go.Proofs.YtldmkoicjpkdiaaDoor
