/- A timer in memory. -/
import Derived.Test.YtncjeleabpodaaaRows
import Derived.Test.YtncjeleabpodaaaRtoPlain
import Derived.Test.YtncjeleabpodaaaChg
import Derived.WalkKit
import Derived.WalkSpells
import Derived.WalkLawsBesides
import Derived.Lib.Hide
import Derived.Laws.Bits64
import Derived.IntWalk
import Derived.RegionTactic
import Derived.BigRegion
namespace Go.Proofs.Ytncjeleabpodaaa
open Go.RowKit
def tmCells (m : Tm) : Array Value := #[.bool m.had, .int .i64 m.trip, .int .i64 m.dev, .bool m.timing, .int .i64 m.goal, .int .i64 m.since, .int .i64 m.backs]
/-- Block B holds the timer m. -/
def Tim (B : Nat) (m : Tm) (w : World) : Prop := ∃ t, w.heap[B]? = some (.cells (tmCells m) t (0, 0))
theorem Tim.cells {B : Nat} {m : Tm} {w : World} (h : Tim B m w) :
    w.cell? ⟨B, 0, none⟩ = some (.bool m.had) ∧ w.cell? ⟨B, 1, none⟩ = some (.int .i64 m.trip) ∧ w.cell? ⟨B, 2, none⟩ = some (.int .i64 m.dev) ∧ w.cell? ⟨B, 3, none⟩ = some (.bool m.timing) ∧ w.cell? ⟨B, 4, none⟩ = some (.int .i64 m.goal) ∧ w.cell? ⟨B, 5, none⟩ = some (.int .i64 m.since) ∧ w.cell? ⟨B, 6, none⟩ = some (.int .i64 m.backs) := by
  obtain ⟨t, ht⟩ := h
  refine ⟨?_, ?_, ?_, ?_, ?_, ?_, ?_⟩ <;> (rw [cell_of_row _ _ _ _ _ _ ht]; rfl)
theorem Tim.free {B : Nat} {m : Tm} {w : World} (h : Tim B m w) (i : Nat) : w.frozen? ⟨B, i, none⟩ = false := by
  obtain ⟨t, ht⟩ := h
  exact frozen_of_row _ _ _ _ _ ht
theorem Tim.lt {B : Nat} {m : Tm} {w : World} (h : Tim B m w) : B < w.heap.size := by
  obtain ⟨t, ht⟩ := h
  exact (Array.getElem?_eq_some_iff.1 ht).1
theorem Tim.drew {B : Nat} {m : Tm} {w : World} (h : Tim B m w) : Tim B m w.drew := h
theorem Tim.alloc {B : Nat} {m : Tm} {w : World} (h : Tim B m w) (o : Obj) : Tim B m (w.alloc o) := by
  have hl := h.lt
  obtain ⟨t, ht⟩ := h
  exact ⟨t, by rw [Below.heap_alloc _ _ _ hl]; exact ht⟩
theorem Tim.set {B : Nat} {m : Tm} {w : World} (h : Tim B m w) (i : Nat) (v : Value) (m' : Tm) (he : (tmCells m).setIfInBounds i v = tmCells m') : Tim B m' (w.setCell ⟨B, i, none⟩ v) := by
  obtain ⟨t, ht⟩ := h
  exact ⟨t, by rw [heap_setCell_same _ _ _ _ _ _ ht, he]⟩
theorem Tim.below {B : Nat} {m : Tm} {w w' : World} (h : Tim B m w) (hb : Below w.heap.size w w') : Tim B m w' := by
  have hl := h.lt
  obtain ⟨t, ht⟩ := h
  exact ⟨t, by rw [hb.block B hl]; exact ht⟩
theorem Tim.other {B C : Nat} {m : Tm} {w w' : World} (h : Tim B m w) (hc : Chg C w w') (hne : B ≠ C) : Tim B m w' := by
  obtain ⟨t, ht⟩ := h
  exact ⟨t, hc.other ht hne⟩
theorem Tim.new (w : World) (t : TypeId) : Tim w.heap.size tm0 (w.alloc (.cells (tmCells tm0) t)) := ⟨t, heap_alloc_new _ _⟩
set_option maxHeartbeats 400000 in
theorem new_any (w : World) : Calls Try.prog 13 #[] w fun e w' => e = .returned (.pointer (some ⟨w.heap.size, 0, none⟩)) ∧ w' = w.alloc (.cells (tmCells tm0) 76) := by
  go_enter Try.func13, Try.ntmps13
  go_wp2
  go_ret
  exact ⟨rfl, rfl⟩
set_option maxHeartbeats 400000 in
theorem sent_any (B : Nat) (m : Tm) (now n : Int) (w : World) (h : Tim B m w) :
    Calls Try.prog 15 #[.pointer (some ⟨B, 0, none⟩), .int .i64 now, .int .i64 n] w fun e w' => e = .returned (.tuple #[]) ∧ Tim B (m.sent now n) w' ∧ Chg B w w' := by
  obtain ⟨c0, c1, c2, c3, c4, c5, c6⟩ := h.cells
  have f3 := h.free 3
  have f4 := h.free 4
  have f5 := h.free 5
  by_cases ht : m.timing = true
  · have HM := Lib.hid (show m.sent now n = m by unfold Tm.sent; rw [if_pos ht])
    rw [ht] at c3
    clear ht
    go_enter Try.func15, Try.ntmps15
    go_wp2
    exact bodyPost_ret (results_none rfl _ _ _) rfl ⟨rfl, by rw [HM.out]; exact h, Chg.refl _ _⟩
  · have HM := Lib.hid (show m.sent now n = { m with timing := true, goal := n, since := now } by unfold Tm.sent; rw [if_neg ht])
    have ht' : m.timing = false := by simpa using ht
    rw [ht'] at c3
    clear ht
    have HT := Lib.hid ht'
    clear ht'
    go_enter Try.func15, Try.ntmps15
    go_wp2
    go_end0
    refine ⟨rfl, ?_, (((Chg.refl _ _).setCell _ _).setCell _ _).setCell _ _⟩
    rw [HM.out]
    exact ((h.set 3 _ { m with timing := true } rfl).set 4 _ { m with timing := true, goal := n } rfl).set 5 _ _ rfl
set_option maxHeartbeats 400000 in
theorem retr_any (B : Nat) (m : Tm) (w : World) (h : Tim B m w) :
    Calls Try.prog 40 #[.pointer (some ⟨B, 0, none⟩)] w fun e w' => e = .returned (.tuple #[]) ∧ Tim B m.retr w' ∧ Chg B w w' := by
  obtain ⟨c0, c1, c2, c3, c4, c5, c6⟩ := h.cells
  have f3 := h.free 3
  go_enter Try.func40, Try.ntmps40
  go_wp2
  go_end0
  exact ⟨rfl, h.set 3 _ _ rfl, (Chg.refl _ _).setCell _ _⟩
theorem u64diff (s n : Int) (hs1 : -9223372036854775808 ≤ s) (hs2 : s ≤ 9223372036854775807) (hn1 : -9223372036854775808 ≤ n) (hn2 : n ≤ 9223372036854775807) (h : s < n) :
    IntKind.u64.wrap (IntKind.u64.wrap n - IntKind.u64.wrap s) = n - s := by
  rw [IntKind.wrap_u64, IntKind.wrap_u64, IntKind.wrap_u64]
  omega
theorem ret_i {a b : Int} (h : a = b) : Ending.returned (.int .i64 a) = .returned (.int .i64 b) := by rw [h]
set_option maxHeartbeats 400000 in
theorem elapsed_any (since now : Int) (hs1 : -9223372036854775808 ≤ since) (hs2 : since ≤ 9223372036854775807) (hn1 : -9223372036854775808 ≤ now) (hn2 : now ≤ 9223372036854775807) (w : World) :
    Calls Try.prog 52 #[.int .i64 since, .int .i64 now] w fun e w' => e = .returned (.int .i64 (elapsedV since now)) ∧ w = w' := by
  by_cases h1 : now ≤ since
  · have H := Lib.hid (show (1 : Int) = elapsedV since now by unfold elapsedV; rw [if_pos h1])
    go_enter Try.func52, Try.ntmps52
    go_wp2
    go_ret
    exact ⟨ret_i H.out, rfl⟩
  · go_enter Try.func52, Try.ntmps52
    go_wp2
    · rename_i hx
      go_ret
      refine ⟨ret_i ?_, rfl⟩
      have hd := u64diff since now hs1 hs2 hn1 hn2 (by omega)
      rw [hd] at hx ⊢
      unfold elapsedV
      rw [if_neg (by omega), if_pos hx, IntWalk.wrap64_in _ (by omega)]
    · rename_i hx
      go_ret
      refine ⟨ret_i ?_, rfl⟩
      have hd := u64diff since now hs1 hs2 hn1 hn2 (by omega)
      rw [hd] at hx
      unfold elapsedV
      rw [if_neg (by omega), if_neg (by omega)]
set_option maxHeartbeats 800000 in
theorem sample_any (B : Nat) (m : Tm) (r : Int) (h1 : 1 ≤ r) (h2 : r ≤ 1000) (hok : m.Ok) (w : World) (h : Tim B m w) :
    Calls Try.prog 51 #[.pointer (some ⟨B, 0, none⟩), .int .i64 r] w fun e w' => e = .returned (.tuple #[]) ∧ Tim B (m.sample r) w' ∧ Chg B w w' := by
  obtain ⟨c0, c1, c2, c3, c4, c5, c6⟩ := h.cells
  obtain ⟨o1, o2, o3, o4, o5, o6⟩ := hok
  have f0 := h.free 0
  have f1 := h.free 1
  have f2 := h.free 2
  clear c3 c4 c5 c6
  by_cases hh : m.had = true
  · have HM := Lib.hid (show m.sample r = { m with trip := m.trip + (r - m.trip / 8), dev := m.dev + (max (r - m.trip / 8) (-(r - m.trip / 8)) - m.dev / 4) } by unfold Tm.sample; rw [if_pos hh])
    rw [hh] at c0
    have HH := Lib.hid hh
    clear hh
    go_enter Try.func51, Try.ntmps51
    go_wp2
    obtain ⟨d, hd⟩ : ∃ d, r - m.trip / 8 = d := ⟨_, rfl⟩
    rw [hd] at HM ⊢
    have hd1 : -1000 ≤ d := by omega
    have hd2 : d ≤ 1000 := by omega
    clear hd
    generalize hw1 : w.setCell ⟨B, 1, none⟩ (.int .i64 (m.trip + d)) = W1
    have c2' : W1.cell? ⟨B, 2, none⟩ = some (.int .i64 m.dev) := by rw [← hw1]; rw [World.cell?_setCell_other _ _ _ _ (by simp)]; exact c2
    have f2' : W1.frozen? ⟨B, 2, none⟩ = false := by rw [← hw1, World.frozen?_setCell]; exact f2
    have HT : Hid (Tim B { m with trip := m.trip + d } W1) := by rw [← hw1]; exact h.set 1 _ _ rfl
    have HC : Hid (Chg B w W1) := by rw [← hw1]; exact (Chg.refl _ _).setCell _ _
    clear hw1 c0 c1 c2 f0 f1 f2
    have e1 : IntKind.i64.wrap (-d) = -d := IntWalk.i64_in _ (by omega)
    by_cases hneg : d < 0
    · have e2 : IntKind.i64.wrap (-d - m.dev / 4) = -d - m.dev / 4 := IntWalk.i64_in _ (by omega)
      have e3 : IntKind.i64.wrap (m.dev + (-d - m.dev / 4)) = m.dev + (-d - m.dev / 4) := IntWalk.i64_in _ (by omega)
      have e4 : d < -d := by omega
      go_region
      go_wp2
      go_end0
      refine ⟨rfl, ?_, (HC.out.setCell _ _).drew⟩
      rw [HM.out, show max d (-d) = -d by omega]
      exact (HT.out.set 2 (.int .i64 (m.dev + (-d - m.dev / 4))) { m with trip := m.trip + d, dev := m.dev + (-d - m.dev / 4) } rfl).drew
    · have e2 : IntKind.i64.wrap (d - m.dev / 4) = d - m.dev / 4 := IntWalk.i64_in _ (by omega)
      have e3 : IntKind.i64.wrap (m.dev + (d - m.dev / 4)) = m.dev + (d - m.dev / 4) := IntWalk.i64_in _ (by omega)
      have e4 : ¬ d < -d := by omega
      go_region
      go_wp2
      go_end0
      refine ⟨rfl, ?_, (HC.out.setCell _ _).drew⟩
      rw [HM.out, show max d (-d) = d by omega]
      exact (HT.out.set 2 (.int .i64 (m.dev + (d - m.dev / 4))) { m with trip := m.trip + d, dev := m.dev + (d - m.dev / 4) } rfl).drew
  · have hh' : m.had = false := by simpa using hh
    have HM := Lib.hid (show m.sample r = { m with had := true, trip := 8 * r, dev := 2 * r } by unfold Tm.sample; rw [if_neg hh])
    rw [hh'] at c0
    clear hh hh'
    go_enter Try.func51, Try.ntmps51
    go_wp2
    refine bodyPost_ret (results_none rfl _ _ _) rfl ⟨rfl, ?_, (((Chg.refl _ _).setCell _ _).setCell _ _).setCell _ _⟩
    rw [HM.out]
    exact ((h.set 0 _ { m with had := true } rfl).set 1 _ { m with had := true, trip := 8 * r } rfl).set 2 _ _ rfl
/-- clamp, at two bounds. -/
def clampV (n lo hi : Int) : Int := min (max n lo) hi
set_option maxHeartbeats 800000 in
theorem clamp_any (n lo hi : Int) (C : Nat) (w : World) (h0 : w.cell? ⟨C, 0, none⟩ = some (.int .i64 lo)) (h1 : w.cell? ⟨C, 1, none⟩ = some (.int .i64 hi)) :
    Calls Try.prog 79 #[.int .i64 n, .slice (some ⟨C, 0, none⟩) 2 2] w fun e w' => e = .returned (.int .i64 (clampV n lo hi)) ∧ w' = w.drew := by
  have e1 : IntKind.i64.wrap ((2 : Int) - 1) = 1 := by decide
  have e1' : IntKind.i64.wrap 1 = 1 := by decide
  by_cases ha : n < lo
  · by_cases hb : hi < lo
    · have HV := Lib.hid (show hi = clampV n lo hi by unfold clampV; omega)
      go_enter Try.func79, Try.ntmps79
      go_wp2
      go_region
      go_wp2
      go_ret
      exact ⟨ret_i HV.out, rfl⟩
    · have HV := Lib.hid (show lo = clampV n lo hi by unfold clampV; omega)
      go_enter Try.func79, Try.ntmps79
      go_wp2
      go_region
      go_wp2
      go_ret
      exact ⟨ret_i HV.out, rfl⟩
  · by_cases hb : hi < n
    · have HV := Lib.hid (show hi = clampV n lo hi by unfold clampV; omega)
      go_enter Try.func79, Try.ntmps79
      go_wp2
      go_region
      go_wp2
      go_ret
      exact ⟨ret_i HV.out, rfl⟩
    · have HV := Lib.hid (show n = clampV n lo hi by unfold clampV; omega)
      go_enter Try.func79, Try.ntmps79
      go_wp2
      go_region
      go_wp2
      go_ret
      exact ⟨ret_i HV.out, rfl⟩
end Go.Proofs.Ytncjeleabpodaaa
