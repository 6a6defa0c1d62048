/- A congestion state in memory, and the small functions over it. -/
import Derived.Test.YtnjfpkjfacopkaaDoorRows
import Derived.Test.YtnjfpkjfacopkaaDoorCgPlain
import Derived.Test.YtnjfpkjfacopkaaDoorIs
import Derived.Test.YtnjfpkjfacopkaaDoorChg
import Derived.Test.YtnjfpkjfacopkaaDoorBlk
import Derived.WalkKit
import Derived.WalkSpells
import Derived.WalkLawsBesides
import Derived.Lib.Hide
import Derived.IntWalk
import Derived.RegionTactic
import Derived.BigRegion
import Derived.Deep.RegionWith
import Derived.Deep.RegionHeld3
import Derived.Outline
namespace Go.Proofs.YtnjfpkjfacopkaaDoor
open Go.RowKit
theorem ret_i {a b : Int} (h : a = b) : Ending.returned (.int .i64 a) = .returned (.int .i64 b) := by rw [h]
def slowFn : Value := .func (.func 24) #[] #[]
def avoidFn : Value := .func (.func 25) #[] #[]
def cgCells (c : Cg) : Array Value := #[.int .i64 c.mss, .int .i64 c.win, .int .i64 c.thr, .bool c.on, .int .i64 c.pt, .func (.func 24) #[] #[], .func (.func 25) #[] #[]]
/-- Block B holds the state c. -/
def Cng (B : Nat) (c : Cg) (w : World) : Prop := ∃ t, w.heap[B]? = some (.cells (cgCells c) t (0, 0))
theorem Cng.cells {B : Nat} {m : Cg} {w : World} (h : Cng B m w) :
    w.cell? ⟨B, 0, none⟩ = some (.int .i64 m.mss) ∧ w.cell? ⟨B, 1, none⟩ = some (.int .i64 m.win) ∧ w.cell? ⟨B, 2, none⟩ = some (.int .i64 m.thr) ∧ w.cell? ⟨B, 3, none⟩ = some (.bool m.on) ∧ w.cell? ⟨B, 4, none⟩ = some (.int .i64 m.pt) ∧ w.cell? ⟨B, 5, none⟩ = some (.func (.func 24) #[] #[]) ∧ w.cell? ⟨B, 6, none⟩ = some (.func (.func 25) #[] #[]) := by
  obtain ⟨t, ht⟩ := h
  refine ⟨?_, ?_, ?_, ?_, ?_, ?_, ?_⟩ <;> (rw [cell_of_row _ _ _ _ _ _ ht]; rfl)
theorem Cng.free {B : Nat} {m : Cg} {w : World} (h : Cng B m w) (i : Nat) : w.frozen? ⟨B, i, none⟩ = false := by
  obtain ⟨t, ht⟩ := h
  exact frozen_of_row _ _ _ _ _ ht
theorem Cng.lt {B : Nat} {m : Cg} {w : World} (h : Cng B m w) : B < w.heap.size := by
  obtain ⟨t, ht⟩ := h
  exact (Array.getElem?_eq_some_iff.1 ht).1
theorem Cng.drew {B : Nat} {m : Cg} {w : World} (h : Cng B m w) : Cng B m w.drew := h
theorem Cng.below {B : Nat} {m : Cg} {w w' : World} (h : Cng B m w) (hb : Below w.heap.size w w') : Cng B m w' := by
  have hl := h.lt
  obtain ⟨t, ht⟩ := h
  exact ⟨t, by rw [hb.block B hl]; exact ht⟩
theorem Cng.alloc {B : Nat} {m : Cg} {w : World} (h : Cng B m w) (o : Obj) : Cng B m (w.alloc o) := h.below ((Below.refl _ _).alloc (Nat.le_refl _) _)
theorem Cng.set {B : Nat} {m : Cg} {w : World} (h : Cng B m w) (i : Nat) (v : Value) (m' : Cg) (he : (cgCells m).setIfInBounds i v = cgCells m') : Cng B m' (w.setCell ⟨B, i, none⟩ v) := by
  obtain ⟨t, ht⟩ := h
  exact ⟨t, by rw [heap_setCell_same _ _ _ _ _ _ ht, he]⟩
theorem Cng.other {B C : Nat} {m : Cg} {w w' : World} (h : Cng B m w) (hc : Chg C w w') (hne : B ≠ C) : Cng B m w' := by
  obtain ⟨t, ht⟩ := h
  exact ⟨t, hc.other ht hne⟩
/-- errSize, as it is laid. -/
def ErrS (a : Addr) (w : World) : Prop := w.cell? ⟨0, 0, none⟩ = some (.iface 76 (.pointer (some a))) ∧ 0 < w.heap.size
theorem ErrS.below {a : Addr} {w w' : World} {N : Nat} (h : ErrS a w) (hb : Below N w w') (hN : 0 < N) : ErrS a w' :=
  ⟨(hb.cell (p := ⟨0, 0, none⟩) hN).trans h.1, Nat.lt_of_lt_of_le h.2 hb.size⟩
set_option maxHeartbeats 400000 in
theorem check_bad (m : Int) (a : Addr) (w : World) (h : ErrS a w) (hm : m < 28 ∨ 1024 < m) :
    Calls Tryd.prog 23 #[.int .i64 m] w fun e w' => e = .returned (.iface 76 (.pointer (some a))) ∧ w = w' := by
  have h0 := h.1
  clear h
  by_cases c : m < 28
  · go_enter Tryd.func23, Tryd.ntmps23
    go_wp2
    go_ret
    exact ⟨rfl, rfl⟩
  · have c2 : 1024 < m := by omega
    clear hm
    go_enter Tryd.func23, Tryd.ntmps23
    go_wp2
    go_ret
    exact ⟨rfl, rfl⟩
set_option maxHeartbeats 400000 in
theorem check_good (m : Int) (w : World) (h1 : 28 ≤ m) (h2 : m ≤ 1024) :
    Calls Tryd.prog 23 #[.int .i64 m] w fun e w' => e = .returned .nilIface ∧ w = w' := by
  go_enter Tryd.func23, Tryd.ntmps23
  go_wp2
  go_ret
  exact ⟨rfl, rfl⟩
set_option maxHeartbeats 400000 in
theorem greatest_one (x y : Int) (C : Nat) (w : World) (h : w.cell? ⟨C, 0, none⟩ = some (.int .i64 y)) :
    Calls Tryd.prog 38 #[.int .i64 x, .slice (some ⟨C, 0, none⟩) 1 1] w fun e w' => e = .returned (.int .i64 (max x y)) ∧ w = w' := by
  by_cases c : x < y
  · have HV := Lib.hid (show y = max x y by omega)
    go_enter Tryd.func38, Tryd.ntmps38
    go_wp2
    refine wp_loop_rounds 2 ?_
    rw [rounds_succ]
    go_wp2
    rw [rounds_succ]
    go_wp2
    go_ret
    exact ⟨ret_i HV.out, rfl⟩
  · have HV := Lib.hid (show x = max x y by omega)
    go_enter Tryd.func38, Tryd.ntmps38
    go_wp2
    refine wp_loop_rounds 2 ?_
    rw [rounds_succ]
    go_wp2
    rw [rounds_succ]
    go_wp2
    go_ret
    exact ⟨ret_i HV.out, rfl⟩
set_option maxHeartbeats 400000 in
theorem recovers_any (B : Nat) (c : Cg) (hok : c.Ok) (w : World) (h : Cng B c w) :
    Calls Tryd.prog 27 #[.pointer (some ⟨B, 0, none⟩)] w fun e w' => e = .returned (.bool c.on) ∧ w = w' := by
  obtain ⟨c0, c1, c2, c3, c4, c5, c6⟩ := h.cells
  by_cases ho : c.on = true
  · rw [ho] at c3 ⊢
    clear ho
    go_enter Tryd.func27, Tryd.ntmps27
    go_wp2
    go_ret
    exact ⟨rfl, rfl⟩
  · have ho' : c.on = false := by simpa using ho
    rw [hok.2.2.2.2.2.2.2 ho'] at c4
    rw [ho'] at c3 ⊢
    clear ho ho'
    go_enter Tryd.func27, Tryd.ntmps27
    go_wp2
    go_ret
    exact ⟨rfl, rfl⟩
theorem slow_made (w : World) : (binOp .neq 54 (.func (.func 24) #[] #[]) .nilFunc).run Tryd.prog w = .ok (.bool true) w := by kernel_rfl
theorem avoid_made (w : World) : (binOp .neq 54 (.func (.func 25) #[] #[]) .nilFunc).run Tryd.prog w = .ok (.bool true) w := by kernel_rfl
set_option maxRecDepth 100000 in
set_option maxHeartbeats 400000 in
theorem made_any (B : Nat) (c : Cg) (w : World) (h : Cng B c w) :
    Calls Tryd.prog 26 #[.pointer (some ⟨B, 0, none⟩)] w fun e w' => e = .returned (.bool true) ∧ w = w' := by
  obtain ⟨c0, c1, c2, c3, c4, c5, c6⟩ := h.cells
  have n1 := slow_made
  have n2 := avoid_made
  go_enter Tryd.func26, Tryd.ntmps26
  go_wp2_with fail
  go_ret
  exact ⟨rfl, rfl⟩
set_option maxHeartbeats 400000 in
theorem reduce_any (B : Nat) (c : Cg) (f : Int) (hf : In64 f) (hok : c.Ok) (w : World) (h : Cng B c w) :
    Calls Tryd.prog 28 #[.pointer (some ⟨B, 0, none⟩), .int .i64 f] w fun e w' => e = .returned (.tuple #[]) ∧ Cng B { c with thr := halfV c.mss f } w' ∧ Chg B w w' := by
  obtain ⟨c0, c1, c2, c3, c4, c5, c6⟩ := h.cells
  obtain ⟨m1, m2, -⟩ := hok
  obtain ⟨f1, f2⟩ := hf
  go_enter Tryd.func28, Tryd.ntmps28
  go_wp2_with fail
  refine (greatest_one (f.tdiv 2) (2 * c.mss) w.heap.size _ (by rw [cell_of_row _ _ _ _ _ _ (heap_alloc_new _ _)]; rfl)).mono ?_
  rintro e w1 ⟨rfl, rfl⟩
  have hA := h.alloc (.cells #[.int .i64 (2 * c.mss)] 3)
  have hC := (Chg.refl B w).alloc (.cells #[.int .i64 (2 * c.mss)] 3)
  have g2 := hA.free 2
  clear c0 c1 c2 c3 c4 c5 c6
  obtain ⟨c0, c1, c2, c3, c4, c5, c6⟩ := hA.cells
  generalize w.alloc (.cells #[.int .i64 (2 * c.mss)] 3) = W1 at *
  clear c0 c1 c3 c4 c5 c6
  have HX := Lib.hid (show halfV c.mss f = min (max (f.tdiv 2) (2 * c.mss)) 65535 from rfl)
  generalize max (f.tdiv 2) (2 * c.mss) = x at *
  by_cases hx : 65535 < x
  · have HV := Lib.hid (show halfV c.mss f = 65535 by rw [HX.out]; omega)
    go_wp2_with fail
    go_end0
    exact ⟨rfl, by rw [HV.out]; exact hA.set 2 _ _ rfl, hC.setCell _ _⟩
  · have HV := Lib.hid (show halfV c.mss f = x by rw [HX.out]; omega)
    go_wp2_with fail
    go_end0
    exact ⟨rfl, by rw [HV.out]; exact hA.set 2 _ _ rfl, hC.setCell _ _⟩
set_option maxHeartbeats 400000 in
theorem widen_any (B : Nat) (c : Cg) (n : Int) (h1 : 0 ≤ n) (h2 : n ≤ 10000000) (hok : c.Ok) (w : World) (h : Cng B c w) :
    Calls Tryd.prog 30 #[.pointer (some ⟨B, 0, none⟩), .int .i64 n] w fun e w' => e = .returned (.tuple #[]) ∧ Cng B { c with win := min (c.win + n) 65535 } w' ∧ Chg B w w' := by
  obtain ⟨c0, c1, c2, c3, c4, c5, c6⟩ := h.cells
  obtain ⟨-, -, m1, m2, -⟩ := hok
  have g1 := h.free 1
  by_cases hh : 65535 < c.win + n
  · have HV := Lib.hid (show min (c.win + n) 65535 = 65535 by omega)
    go_enter Tryd.func30, Tryd.ntmps30
    go_wp2_with fail
    go_end0
    exact ⟨rfl, by rw [HV.out]; exact h.set 1 _ _ rfl, (Chg.refl _ _).setCell _ _⟩
  · have HV := Lib.hid (show min (c.win + n) 65535 = c.win + n by omega)
    go_enter Tryd.func30, Tryd.ntmps30
    go_wp2_with fail
    go_end0
    exact ⟨rfl, by rw [HV.out]; exact h.set 1 _ _ rfl, (Chg.refl _ _).setCell _ _⟩
set_option maxHeartbeats 400000 in
theorem slow_any (B : Nat) (c : Cg) (n : Int) (w : World) (h : Cng B c w) :
    Calls Tryd.prog 24 #[.pointer (some ⟨B, 0, none⟩), .int .i64 n] w fun e w' => e = .returned (.int .i64 (min n c.mss)) ∧ w = w' := by
  obtain ⟨c0, c1, c2, c3, c4, c5, c6⟩ := h.cells
  by_cases hh : c.mss < n
  · have HV := Lib.hid (show c.mss = min n c.mss by omega)
    go_enter Tryd.func24, Tryd.ntmps24
    go_wp2_with fail
    go_ret
    exact ⟨ret_i HV.out, rfl⟩
  · have HV := Lib.hid (show n = min n c.mss by omega)
    go_enter Tryd.func24, Tryd.ntmps24
    go_wp2_with fail
    go_ret
    exact ⟨ret_i HV.out, rfl⟩
theorem one0 (w : World) (a : Value) (t : TypeId) : ((w.alloc (.cells #[a] t)).drew).cell? ⟨w.heap.size, 0, none⟩ = some a := by
  show (w.alloc (.cells #[a] t)).cell? ⟨w.heap.size, 0, none⟩ = some a
  rw [cell_of_row _ _ _ _ _ _ (heap_alloc_new _ _)]; rfl
theorem one1 (w : World) (b a : Value) (t : TypeId) : (((w.alloc (.cells #[b] t)).alloc (.cells #[a] t)).drew).cell? ⟨w.heap.size + 1, 0, none⟩ = some a := by
  show ((w.alloc (.cells #[b] t)).alloc (.cells #[a] t)).cell? ⟨w.heap.size + 1, 0, none⟩ = some a
  have h := heap_alloc_new (w.alloc (.cells #[b] t)) (.cells #[a] t)
  rw [show (w.alloc (.cells #[b] t)).heap.size = w.heap.size + 1 by simp] at h
  rw [cell_of_row _ _ _ _ _ _ h]; rfl
set_option maxHeartbeats 400000 in
theorem avoid_any (B : Nat) (c : Cg) (n : Int) (hok : c.Ok) (w : World) (h : Cng B c w) :
    Calls Tryd.prog 25 #[.pointer (some ⟨B, 0, none⟩), .int .i64 n] w fun e w' => e = .returned (.int .i64 (avoidV c.mss c.win)) ∧ Below w.heap.size w w' := by
  obtain ⟨c0, c1, c2, c3, c4, c5, c6⟩ := h.cells
  obtain ⟨m1, m2, m3, m4, -⟩ := hok
  go_enter Tryd.func25, Tryd.ntmps25
  go_wp2_with fail
  obtain ⟨a1, a2, a3, a4, a5, a6⟩ := avoidV_bd m1 m2 m3
  have e1 : IntKind.i64.wrap (c.mss * c.mss) = c.mss * c.mss := IntWalk.i64_in _ (by omega)
  have e2 : max 1 c.win = c.win := by omega
  have e3 : (c.mss * c.mss).tdiv c.win = c.mss * c.mss / c.win := Int.tdiv_eq_ediv_of_nonneg a3
  have e4 : IntKind.i64.wrap (c.mss * c.mss / c.win) = c.mss * c.mss / c.win := IntWalk.i64_in _ (by omega)
  clear c2 c3 c4 c5 c6
  have hz1 : (c.win == 0) = false := by rw [beq_eq_false_iff_ne]; omega
  have hz2 : c.win ≠ 0 := by omega
  have HP1 := Lib.hid (one0 w (.int .i64 c.win) 3)
  have HP2 := Lib.hid (one1 w (.int .i64 c.win) (.int .i64 (c.mss * c.mss / c.win)) 3)
  go_region_held3 (fun w' => w'.cell? ⟨B, 0, none⟩ = some (.int .i64 c.mss) ∧ w'.cell? ⟨B, 1, none⟩ = some (.int .i64 c.win)) (go_keep) (first | (go_at_call 38; ((with_reducible refine (greatest_one 1 c.win w.heap.size _ HP1.out).mono ?_); rintro e w1 ⟨rfl, rfl⟩)) | (go_at_call 38; ((with_reducible refine (greatest_one 1 (c.mss * c.mss / c.win) (w.heap.size + 1) _ HP2.out).mono ?_); rintro e w1 ⟨rfl, rfl⟩)))
  all_goals
    go_wp2_with fail
    go_ret
    exact ⟨rfl, (((Below.refl _ _).alloc (Nat.le_refl _) _).alloc (by simp) _).drew⟩
end Go.Proofs.YtnjfpkjfacopkaaDoor
