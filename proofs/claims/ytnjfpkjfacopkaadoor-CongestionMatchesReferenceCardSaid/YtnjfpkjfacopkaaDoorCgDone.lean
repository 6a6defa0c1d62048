/- The reference's congestion state; one generated call on both. -/
import Derived.Test.YtnjfpkjfacopkaaDoorCgSane
import Derived.Test.YtnjfpkjfacopkaaDoorCgCalls
namespace Go.Proofs.YtnjfpkjfacopkaaDoor
open Go.RowKit
def rcCells (c : Cg) : Array Value := #[.int .i64 c.mss, .int .i64 c.win, .int .i64 c.thr, .bool c.on, .int .i64 c.pt]
/-- Block B holds the reference's state c. -/
def Rcg (B : Nat) (c : Cg) (w : World) : Prop := ∃ t, w.heap[B]? = some (.cells (rcCells c) t (0, 0))
theorem Rcg.cells {B : Nat} {m : Cg} {w : World} (h : Rcg B m w) :
    w.cell? ⟨B, 0, none⟩ = some (.int .i64 m.mss) ∧ w.cell? ⟨B, 1, none⟩ = some (.int .i64 m.win) ∧ w.cell? ⟨B, 2, none⟩ = some (.int .i64 m.thr) ∧ w.cell? ⟨B, 3, none⟩ = some (.bool m.on) ∧ w.cell? ⟨B, 4, none⟩ = some (.int .i64 m.pt) := by
  obtain ⟨t, ht⟩ := h
  refine ⟨?_, ?_, ?_, ?_, ?_⟩ <;> (rw [cell_of_row _ _ _ _ _ _ ht]; rfl)
theorem Rcg.free {B : Nat} {m : Cg} {w : World} (h : Rcg B m w) (i : Nat) : w.frozen? ⟨B, i, none⟩ = false := by
  obtain ⟨t, ht⟩ := h
  exact frozen_of_row _ _ _ _ _ ht
theorem Rcg.lt {B : Nat} {m : Cg} {w : World} (h : Rcg B m w) : B < w.heap.size := by
  obtain ⟨t, ht⟩ := h
  exact (Array.getElem?_eq_some_iff.1 ht).1
theorem Rcg.drew {B : Nat} {m : Cg} {w : World} (h : Rcg B m w) : Rcg B m w.drew := h
theorem Rcg.drewN {B : Nat} {m : Cg} {w : World} (h : Rcg B m w) (n : Nat) : Rcg B m (w.drewN n) := h
theorem Rcg.below {B : Nat} {m : Cg} {w w' : World} (h : Rcg B m w) (hb : Below w.heap.size w w') : Rcg B m w' := by
  have hl := h.lt
  obtain ⟨t, ht⟩ := h
  exact ⟨t, by rw [hb.block B hl]; exact ht⟩
theorem Rcg.alloc {B : Nat} {m : Cg} {w : World} (h : Rcg B m w) (o : Obj) : Rcg B m (w.alloc o) := h.below ((Below.refl _ _).alloc (Nat.le_refl _) _)
theorem Rcg.set {B : Nat} {m : Cg} {w : World} (h : Rcg B m w) (i : Nat) (v : Value) (m' : Cg) (he : (rcCells m).setIfInBounds i v = rcCells m') : Rcg B m' (w.setCell ⟨B, i, none⟩ v) := by
  obtain ⟨t, ht⟩ := h
  exact ⟨t, by rw [heap_setCell_same _ _ _ _ _ _ ht, he]⟩
theorem Rcg.other {B C : Nat} {m : Cg} {w w' : World} (h : Rcg B m w) (hc : Chg C w w') (hne : B ≠ C) : Rcg B m w' := by
  obtain ⟨t, ht⟩ := h
  exact ⟨t, hc.other ht hne⟩
/-- The reference's operations: as the code's, but that the point stays. -/
def Cg.rack (c : Cg) (n una : Int) : Cg :=
  if c.on then (if c.pt ≤ una then { c with on := false, win := c.thr } else c)
  else if n ≤ 0 then c
  else if c.win < c.thr then { c with win := min (c.win + min n c.mss) 65535 }
  else { c with win := min (c.win + avoidV c.mss c.win) 65535 }
def Cg.rtime (c : Cg) (flight : Int) : Cg := { c with thr := halfV c.mss flight, win := c.mss, on := false }
/-- What of the reference's state the code's keeps. -/
def Cg.cut (c : Cg) : Cg := { c with pt := if c.on then c.pt else 0 }
def Cg.call (c : Cg) (k n to : Int) : Cg := if k = 0 then c.acked n to else if k = 1 then c.lost n to else if k = 2 then c.timeout n else c.setMSS n
def Cg.rcall (c : Cg) (k n to : Int) : Cg := if k = 0 then c.rack n to else if k = 1 then c.lost n to else if k = 2 then c.rtime n else c.setMSS n
def Cg.res (c : Cg) (k : Int) : Bool := if k = 1 then !c.on else false
theorem Cg.call_ok {c : Cg} (h : c.Ok) (k n : Int) {to : Int} (ht : In64 to) : (c.call k n to).Ok := by
  unfold Cg.call
  split
  · exact Cg.acked_ok h _ _
  · split
    · exact Cg.lost_ok h _ ht
    · split
      · exact Cg.timeout_ok h _
      · exact Cg.setMSS_ok h _
theorem Cg.cut_call (c : Cg) (k n to : Int) : (c.rcall k n to).cut = c.cut.call k n to := by
  unfold Cg.rcall Cg.call
  by_cases k0 : k = 0
  · rw [if_pos k0, if_pos k0]
    unfold Cg.rack Cg.acked Cg.cut
    by_cases ho : c.on = true
    · by_cases hp : c.pt ≤ to
      · simp [ho, hp]
      · simp [ho, hp]
    · have ho' : c.on = false := by simpa using ho
      by_cases hn : n ≤ 0
      · simp [ho', hn]
      · by_cases hw : c.win < c.thr
        · simp [ho', hn, hw]
        · simp [ho', hn, hw]
  · rw [if_neg k0, if_neg k0]
    by_cases k1 : k = 1
    · rw [if_pos k1, if_pos k1]
      unfold Cg.lost Cg.cut
      by_cases ho : c.on = true
      · simp [ho]
      · have ho' : c.on = false := by simpa using ho
        simp [ho']
    · rw [if_neg k1, if_neg k1]
      by_cases k2 : k = 2
      · rw [if_pos k2, if_pos k2]
        unfold Cg.rtime Cg.timeout Cg.cut
        simp
      · rw [if_neg k2, if_neg k2]
        unfold Cg.setMSS Cg.cut
        by_cases hm : 28 ≤ n ∧ n ≤ 1024 ∧ n < c.mss
        · rw [if_pos hm, if_pos hm]
        · rw [if_neg hm, if_neg hm]
set_option maxHeartbeats 800000 in
theorem rsize_good (m : Int) (w : World) (h1 : 28 ≤ m) (h2 : m ≤ 1024) :
    Calls Tryd.prog 31 #[.int .i64 m] w fun e w' => e = .returned (.bool true) ∧ w = w' := by
  go_enter Tryd.func31, Tryd.ntmps31
  go_wp2
  go_ret
  exact ⟨rfl, rfl⟩
set_option maxHeartbeats 800000 in
theorem rsize_bad (m : Int) (w : World) (hm : m < 28 ∨ 1024 < m) :
    Calls Tryd.prog 31 #[.int .i64 m] w fun e w' => e = .returned (.bool false) ∧ w = w' := by
  by_cases h1 : 28 ≤ m
  · have h2 : 1024 < m := by omega
    have h3 : decide (m ≤ 1024) = false := by simp; omega
    clear hm
    go_enter Tryd.func31, Tryd.ntmps31
    go_wp2
    go_ret
    exact ⟨rfl, rfl⟩
  · clear hm
    go_enter Tryd.func31, Tryd.ntmps31
    go_wp2
    go_ret
    exact ⟨rfl, rfl⟩
set_option maxHeartbeats 800000 in
theorem rnew_good (m : Int) (w : World) (h1 : 28 ≤ m) (h2 : m ≤ 1024) :
    Calls Tryd.prog 18 #[.int .i64 m] w fun e w' => e = .returned (.tuple #[.pointer (some ⟨w.heap.size, 0, none⟩), .int .i64 0]) ∧ Rcg w.heap.size (cg0 m) w' ∧ Below w.heap.size w w' := by
  go_enter Tryd.func18, Tryd.ntmps18
  go_wp2_with fail
  refine (rsize_good m _ h1 h2).mono ?_
  rintro e w1 ⟨rfl, rfl⟩
  go_wp2_with fail
  go_ret2
  exact ⟨rfl, ⟨_, heap_alloc_new _ _⟩, (Below.refl _ _).alloc (Nat.le_refl _) _⟩
set_option maxHeartbeats 800000 in
theorem rnew_bad (m : Int) (w : World) (hm : m < 28 ∨ 1024 < m) :
    Calls Tryd.prog 18 #[.int .i64 m] w fun e w' => e = .returned (.tuple #[.pointer none, .int .i64 160]) ∧ w = w' := by
  have HM := Lib.hid hm
  clear hm
  go_enter Tryd.func18, Tryd.ntmps18
  go_wp2_with fail
  refine (rsize_bad m _ HM.out).mono ?_
  rintro e w1 ⟨rfl, rfl⟩
  go_wp2_with fail
  go_ret2
  exact ⟨rfl, rfl⟩
set_option maxHeartbeats 1600000 in
theorem rhalf_any (B : Nat) (c : Cg) (f : Int) (hf : In64 f) (m1 : 28 ≤ c.mss) (m2 : c.mss ≤ 1024) (w : World) (h : Rcg B c w) :
    Calls Tryd.prog 39 #[.pointer (some ⟨B, 0, none⟩), .int .i64 f] w fun e w' => e = .returned (.tuple #[]) ∧ Rcg B { c with thr := halfV c.mss f } w' ∧ Chg B w w' := by
  obtain ⟨c0, c1, c2, c3, c4⟩ := h.cells
  obtain ⟨f1, f2⟩ := hf
  have g2 := h.free 2
  have HX := Lib.hid (show halfV c.mss f = min (max (f.tdiv 2) (2 * c.mss)) 65535 from rfl)
  by_cases hx : f.tdiv 2 < 2 * c.mss
  · have HV := Lib.hid (show halfV c.mss f = 2 * c.mss by rw [HX.out]; omega)
    go_enter Tryd.func39, Tryd.ntmps39
    go_wp2_with fail
    go_end0
    exact ⟨rfl, by rw [HV.out]; exact h.set 2 _ _ rfl, (Chg.refl _ _).setCell _ _⟩
  · by_cases hy : 65535 < f.tdiv 2
    · have HV := Lib.hid (show halfV c.mss f = 65535 by rw [HX.out]; omega)
      go_enter Tryd.func39, Tryd.ntmps39
      go_wp2_with fail
      go_end0
      exact ⟨rfl, by rw [HV.out]; exact h.set 2 _ _ rfl, (Chg.refl _ _).setCell _ _⟩
    · have HV := Lib.hid (show halfV c.mss f = f.tdiv 2 by rw [HX.out]; omega)
      go_enter Tryd.func39, Tryd.ntmps39
      go_wp2_with fail
      go_end0
      exact ⟨rfl, by rw [HV.out]; exact h.set 2 _ _ rfl, (Chg.refl _ _).setCell _ _⟩
set_option maxHeartbeats 1600000 in
theorem rlost_any (B : Nat) (c : Cg) (f n : Int) (hf : In64 f) (m1 : 28 ≤ c.mss) (m2 : c.mss ≤ 1024) (w : World) (h : Rcg B c w) :
    Calls Tryd.prog 33 #[.pointer (some ⟨B, 0, none⟩), .int .i64 f, .int .i64 n] w fun e w' => e = .returned (.bool (!c.on)) ∧ Rcg B (c.lost f n) w' ∧ Chg B w w' := by
  obtain ⟨c0, c1, c2, c3, c4⟩ := h.cells
  clear c0 c1 c2 c4
  by_cases ho : c.on = true
  · have HM := Lib.hid (show c.lost f n = c by unfold Cg.lost; rw [if_pos ho])
    have HO := Lib.hid (show (!c.on) = false by rw [ho]; rfl)
    rw [ho] at c3
    clear ho
    go_enter Tryd.func33, Tryd.ntmps33
    go_wp2_with fail
    go_ret
    exact ⟨by rw [HO.out]; rfl, by rw [HM.out]; exact h, Chg.refl _ _⟩
  · have ho' : c.on = false := by simpa using ho
    have HM := Lib.hid (show c.lost f n = { c with thr := halfV c.mss f, win := halfV c.mss f, on := true, pt := n } by unfold Cg.lost; rw [if_neg ho])
    have HO := Lib.hid (show (!c.on) = true by rw [ho']; rfl)
    rw [ho'] at c3
    clear ho ho'
    go_enter Tryd.func33, Tryd.ntmps33
    go_wp2_with fail
    refine (rhalf_any B c f hf m1 m2 _ h).mono ?_
    rintro e w3 ⟨rfl, hT, hC⟩
    clear c3
    obtain ⟨c0, c1, c2, c3, c4⟩ := hT.cells
    have g1 := hT.free 1
    have g3 := hT.free 3
    have g4 := hT.free 4
    go_wp2_with fail
    go_ret
    refine ⟨by rw [HO.out]; rfl, ?_, ((hC.setCell _ _).setCell _ _).setCell _ _⟩
    rw [HM.out]
    exact ((hT.set 1 _ { c with thr := halfV c.mss f, win := halfV c.mss f } rfl).set 3 _ { c with thr := halfV c.mss f, win := halfV c.mss f, on := true } rfl).set 4 _ _ rfl
set_option maxHeartbeats 1600000 in
theorem rtime_any (B : Nat) (c : Cg) (f n : Int) (hf : In64 f) (m1 : 28 ≤ c.mss) (m2 : c.mss ≤ 1024) (w : World) (h : Rcg B c w) :
    Calls Tryd.prog 34 #[.pointer (some ⟨B, 0, none⟩), .int .i64 f, .int .i64 n] w fun e w' => e = .returned (.tuple #[]) ∧ Rcg B (c.rtime f) w' ∧ Chg B w w' := by
  go_enter Tryd.func34, Tryd.ntmps34
  go_wp2_with fail
  refine (rhalf_any B c f hf m1 m2 _ h).mono ?_
  rintro e w3 ⟨rfl, hT, hC⟩
  obtain ⟨c0, c1, c2, c3, c4⟩ := hT.cells
  have g1 := hT.free 1
  have g3 := hT.free 3
  go_wp2_with fail
  go_end0
  exact ⟨rfl, (hT.set 1 _ { c with thr := halfV c.mss f, win := c.mss } rfl).set 3 _ _ rfl, (hC.setCell _ _).setCell _ _⟩
set_option maxHeartbeats 1600000 in
theorem rmss_any (B : Nat) (c : Cg) (m : Int) (w : World) (h : Rcg B c w) :
    Calls Tryd.prog 35 #[.pointer (some ⟨B, 0, none⟩), .int .i64 m] w fun e w' => e = .returned (.tuple #[]) ∧ Rcg B (c.setMSS m) w' ∧ Chg B w w' := by
  obtain ⟨c0, c1, c2, c3, c4⟩ := h.cells
  clear c1 c2 c3 c4
  have g0 := h.free 0
  by_cases hm : m < 28 ∨ 1024 < m
  · have HM := Lib.hid (show c.setMSS m = c by unfold Cg.setMSS; rw [if_neg (by omega)])
    have HB := Lib.hid hm
    clear hm
    go_enter Tryd.func35, Tryd.ntmps35
    go_wp2_with fail
    refine (rsize_bad m _ HB.out).mono ?_
    rintro e w1 ⟨rfl, rfl⟩
    go_wp2_with fail
    go_end0
    exact ⟨rfl, by rw [HM.out]; exact h, Chg.refl _ _⟩
  · have m1 : 28 ≤ m := by omega
    have m2 : m ≤ 1024 := by omega
    clear hm
    by_cases hlt : m < c.mss
    · have HM := Lib.hid (show c.setMSS m = { c with mss := m } by unfold Cg.setMSS; rw [if_pos (by omega)])
      go_enter Tryd.func35, Tryd.ntmps35
      go_wp2_with fail
      refine (rsize_good m _ m1 m2).mono ?_
      rintro e w1 ⟨rfl, rfl⟩
      go_wp2_with fail
      go_end0
      exact ⟨rfl, by rw [HM.out]; exact h.set 0 _ _ rfl, (Chg.refl _ _).setCell _ _⟩
    · have HM := Lib.hid (show c.setMSS m = c by unfold Cg.setMSS; rw [if_neg (by omega)])
      go_enter Tryd.func35, Tryd.ntmps35
      go_wp2_with fail
      refine (rsize_good m _ m1 m2).mono ?_
      rintro e w1 ⟨rfl, rfl⟩
      go_wp2_with fail
      go_end0
      exact ⟨rfl, by rw [HM.out]; exact h, Chg.refl _ _⟩
set_option maxHeartbeats 3200000 in
theorem rack_any (B : Nat) (c : Cg) (n una : Int) (m1 : 28 ≤ c.mss) (m2 : c.mss ≤ 1024) (v1 : 28 ≤ c.win) (v2 : c.win ≤ 65535) (w : World) (h : Rcg B c w) :
    Calls Tryd.prog 32 #[.pointer (some ⟨B, 0, none⟩), .int .i64 n, .int .i64 una] w fun e w' => e = .returned (.tuple #[]) ∧ Rcg B (c.rack n una) w' ∧ Chg B w w' := by
  obtain ⟨c0, c1, c2, c3, c4⟩ := h.cells
  have g1 := h.free 1
  have g3 := h.free 3
  by_cases ho : c.on = true
  · rw [ho] at c3
    by_cases hp : c.pt ≤ una
    · have HM := Lib.hid (show c.rack n una = { c with on := false, win := c.thr } by unfold Cg.rack; rw [if_pos ho, if_pos hp])
      clear ho
      go_enter Tryd.func32, Tryd.ntmps32
      go_wp2_with fail
      exact bodyPost_ret (results_none rfl _ _ _) rfl ⟨rfl, by rw [HM.out]; exact (h.set 3 _ { c with on := false } rfl).set 1 _ _ rfl, ((Chg.refl _ _).setCell _ _).setCell _ _⟩
    · have HM := Lib.hid (show c.rack n una = c by unfold Cg.rack; rw [if_pos ho, if_neg hp])
      clear ho
      go_enter Tryd.func32, Tryd.ntmps32
      go_wp2_with fail
      exact bodyPost_ret (results_none rfl _ _ _) rfl ⟨rfl, by rw [HM.out]; exact h, Chg.refl _ _⟩
  · have ho' : c.on = false := by simpa using ho
    rw [ho'] at c3
    by_cases hn : n ≤ 0
    · have HM := Lib.hid (show c.rack n una = c by unfold Cg.rack; rw [if_neg ho, if_pos hn])
      clear ho ho'
      go_enter Tryd.func32, Tryd.ntmps32
      go_wp2_with fail
      exact bodyPost_ret (results_none rfl _ _ _) rfl ⟨rfl, by rw [HM.out]; exact h, Chg.refl _ _⟩
    · by_cases hw : c.win < c.thr
      · have HM := Lib.hid (show c.rack n una = { c with win := min (c.win + min n c.mss) 65535 } by unfold Cg.rack; rw [if_neg ho, if_neg hn, if_pos hw])
        clear ho ho'
        go_enter Tryd.func32, Tryd.ntmps32
        go_wp2_with fail
        go_quiet (fail)
        have h2 := h.drewN nq
        have hC := (Chg.refl B w).drewN nq
        clear c0 c1 c2 c3 c4 g1 g3 h
        generalize w.drewN nq = W at *
        obtain ⟨c0, c1, c2, c3, c4⟩ := h2.cells
        have g1 := h2.free 1
        clear c3 c4
        by_cases hq : c.mss < n
        · have e1 : IntKind.i64.wrap (c.win + c.mss) = c.win + c.mss := IntWalk.i64_in _ (by omega)
          go_wp2_with fail
          go_region
          all_goals
            have hT := h2.set 1 (.int .i64 (c.win + c.mss)) { c with win := c.win + c.mss } rfl
            have hC2 := hC.setCell 1 (.int .i64 (c.win + c.mss))
            by_cases hx : 65535 < c.win + c.mss
            · go_wp2_with fail
              go_end0
              exact ⟨rfl, by rw [HM.out, show min (c.win + min n c.mss) 65535 = 65535 by omega]; exact (hT.set 1 (.int .i64 65535) { c with win := 65535 } rfl).drew, (hC2.setCell _ _).drew⟩
            · go_wp2_with fail
              go_end0
              exact ⟨rfl, by rw [HM.out, show min (c.win + min n c.mss) 65535 = c.win + c.mss by omega]; exact (hT.set 1 _ _ rfl).drew, (hC2.setCell _ _).drew⟩
        · have e1 : IntKind.i64.wrap (c.win + n) = c.win + n := IntWalk.i64_in _ (by omega)
          go_wp2_with fail
          go_region
          all_goals
            have hT := h2.set 1 (.int .i64 (c.win + n)) { c with win := c.win + n } rfl
            have hC2 := hC.setCell 1 (.int .i64 (c.win + n))
            by_cases hx : 65535 < c.win + n
            · go_wp2_with fail
              go_end0
              exact ⟨rfl, by rw [HM.out, show min (c.win + min n c.mss) 65535 = 65535 by omega]; exact (hT.set 1 (.int .i64 65535) { c with win := 65535 } rfl).drew, (hC2.setCell _ _).drew⟩
            · go_wp2_with fail
              go_end0
              exact ⟨rfl, by rw [HM.out, show min (c.win + min n c.mss) 65535 = c.win + n by omega]; exact (hT.set 1 _ _ rfl).drew, (hC2.setCell _ _).drew⟩
      · have HM := Lib.hid (show c.rack n una = { c with win := min (c.win + avoidV c.mss c.win) 65535 } by unfold Cg.rack; rw [if_neg ho, if_neg hn, if_neg hw])
        clear ho ho'
        go_enter Tryd.func32, Tryd.ntmps32
        go_wp2_with fail
        go_quiet (fail)
        have h2 := h.drewN nq
        have hC := (Chg.refl B w).drewN nq
        clear c0 c1 c2 c3 c4 g1 g3 h
        generalize w.drewN nq = W at *
        obtain ⟨c0, c1, c2, c3, c4⟩ := h2.cells
        have g1 := h2.free 1
        clear c3 c4
        obtain ⟨a1, a2, a3, a4, a5, a6⟩ := avoidV_bd m1 m2 v1
        have HAV := Lib.hid (show avoidV c.mss c.win = max 1 (c.mss * c.mss / c.win) from rfl)
        rw [HAV.out] at HM a1 a2
        have e1 : IntKind.i64.wrap (c.mss * c.mss) = c.mss * c.mss := IntWalk.i64_in _ (by omega)
        have e3 : (c.mss * c.mss).tdiv c.win = c.mss * c.mss / c.win := Int.tdiv_eq_ediv_of_nonneg a3
        have e4 : IntKind.i64.wrap (c.mss * c.mss / c.win) = c.mss * c.mss / c.win := IntWalk.i64_in _ (by omega)
        have hz1 : (c.win == 0) = false := by rw [beq_eq_false_iff_ne]; omega
        have hz2 : c.win ≠ 0 := by omega
        by_cases hq : c.mss * c.mss / c.win < 1
        · have e5 : IntKind.i64.wrap (c.win + 1) = c.win + 1 := IntWalk.i64_in _ (by omega)
          go_wp2_with fail
          go_region
          all_goals
            have hT := h2.set 1 (.int .i64 (c.win + 1)) { c with win := c.win + 1 } rfl
            have hC2 := hC.setCell 1 (.int .i64 (c.win + 1))
            by_cases hx : 65535 < c.win + 1
            · go_wp2_with fail
              go_end0
              exact ⟨rfl, by rw [HM.out, show min (c.win + max 1 (c.mss * c.mss / c.win)) 65535 = 65535 by omega]; exact (hT.set 1 (.int .i64 65535) { c with win := 65535 } rfl).drew, (hC2.setCell _ _).drew⟩
            · go_wp2_with fail
              go_end0
              exact ⟨rfl, by rw [HM.out, show min (c.win + max 1 (c.mss * c.mss / c.win)) 65535 = c.win + 1 by omega]; exact (hT.set 1 _ _ rfl).drew, (hC2.setCell _ _).drew⟩
        · have e5 : IntKind.i64.wrap (c.win + c.mss * c.mss / c.win) = c.win + c.mss * c.mss / c.win := IntWalk.i64_in _ (by omega)
          go_wp2_with fail
          go_region
          all_goals
            have hT := h2.set 1 (.int .i64 (c.win + c.mss * c.mss / c.win)) { c with win := c.win + c.mss * c.mss / c.win } rfl
            have hC2 := hC.setCell 1 (.int .i64 (c.win + c.mss * c.mss / c.win))
            by_cases hx : 65535 < c.win + c.mss * c.mss / c.win
            · go_wp2_with fail
              go_end0
              exact ⟨rfl, by rw [HM.out, show min (c.win + max 1 (c.mss * c.mss / c.win)) 65535 = 65535 by omega]; exact (hT.set 1 (.int .i64 65535) { c with win := 65535 } rfl).drew, (hC2.setCell _ _).drew⟩
            · go_wp2_with fail
              go_end0
              exact ⟨rfl, by rw [HM.out, show min (c.win + max 1 (c.mss * c.mss / c.win)) 65535 = c.win + c.mss * c.mss / c.win by omega]; exact (hT.set 1 _ _ rfl).drew, (hC2.setCell _ _).drew⟩
set_option maxHeartbeats 1600000 in
theorem done_any (B : Nat) (c : Cg) (k n to : Int) (hk : In64 k) (hn : In64 n) (hok : c.Ok) (a : Addr) (w : World) (he : ErrS a w) (h : Cng B c w) :
    Calls Tryd.prog 19 #[.pointer (some ⟨B, 0, none⟩), .agg #[.int .i64 k, .int .i64 n, .int .i64 to]] w fun e w' => e = .returned (.bool (c.res k)) ∧ Cng B (c.call k n to) w' ∧ Chg B w w' := by
  have hBx := (Chg.refl B w).alloc (.cells #[.int .i64 k, .int .i64 n, .int .i64 to] 39)
  obtain ⟨k1, k2⟩ := hk
  by_cases k0 : k = 0
  · subst k0
    have HM := Lib.hid (show c.call 0 n to = c.acked n to from rfl)
    have HR := Lib.hid (show c.res 0 = false from rfl)
    go_enter Tryd.func19, Tryd.ntmps19
    go_wp2_with fail
    refine (acked_any B c n to hok _ (by exact h.alloc _)).mono ?_
    rintro e w1 ⟨rfl, hT, hc⟩
    go_wp2_with fail
    go_ret
    exact ⟨by rw [HR.out]; rfl, by rw [HM.out]; exact hT, hBx.trans hc⟩
  · by_cases k1' : k = 1
    · subst k1'
      have HM := Lib.hid (show c.call 1 n to = c.lost n to from rfl)
      have HR := Lib.hid (show c.res 1 = !c.on from rfl)
      clear k0
      go_enter Tryd.func19, Tryd.ntmps19
      go_wp2_with fail
      refine (lost_any B c n to hn hok _ (by exact h.alloc _)).mono ?_
      rintro e w1 ⟨rfl, hT, hc⟩
      go_wp2_with fail
      go_ret
      exact ⟨by rw [HR.out]; rfl, by rw [HM.out]; exact hT, hBx.trans hc⟩
    · by_cases k2' : k = 2
      · subst k2'
        have HM := Lib.hid (show c.call 2 n to = c.timeout n from rfl)
        have HR := Lib.hid (show c.res 2 = false from rfl)
        clear k0 k1'
        go_enter Tryd.func19, Tryd.ntmps19
        go_wp2_with fail
        refine (timeout_any B c n to hn hok _ (by exact h.alloc _)).mono ?_
        rintro e w1 ⟨rfl, hT, hc⟩
        go_wp2_with fail
        go_ret
        exact ⟨by rw [HR.out]; rfl, by rw [HM.out]; exact hT, hBx.trans hc⟩
      · have HM := Lib.hid (show c.call k n to = c.setMSS n by unfold Cg.call; rw [if_neg k0, if_neg k1', if_neg k2'])
        have HR := Lib.hid (show c.res k = false by unfold Cg.res; rw [if_neg k1'])
        have b0 : (k == 0) = false := by rw [beq_eq_false_iff_ne]; exact k0
        have b1 : (k == 1) = false := by rw [beq_eq_false_iff_ne]; exact k1'
        have b2 : (k == 2) = false := by rw [beq_eq_false_iff_ne]; exact k2'
        clear k0 k1' k2'
        go_enter Tryd.func19, Tryd.ntmps19
        go_wp2_with fail
        refine (setMSS_any B c n a _ (by exact he.below ((Below.refl _ _).alloc (Nat.le_refl _) _) he.2) (by exact h.alloc _)).mono ?_
        rintro e w1 ⟨rfl, hT, hc⟩
        go_wp2_with fail
        go_ret
        exact ⟨by rw [HR.out]; rfl, by rw [HM.out]; exact hT, hBx.trans hc⟩
set_option maxHeartbeats 1600000 in
theorem told_any (B : Nat) (c : Cg) (k n to : Int) (hk : In64 k) (hn : In64 n) (hok : c.cut.Ok) (w : World) (h : Rcg B c w) :
    Calls Tryd.prog 20 #[.pointer (some ⟨B, 0, none⟩), .agg #[.int .i64 k, .int .i64 n, .int .i64 to]] w fun e w' => e = .returned (.bool (c.res k)) ∧ Rcg B (c.rcall k n to) w' ∧ Chg B w w' := by
  have hBx := (Chg.refl B w).alloc (.cells #[.int .i64 k, .int .i64 n, .int .i64 to] 39)
  obtain ⟨k1, k2⟩ := hk
  by_cases k0 : k = 0
  · subst k0
    have HM := Lib.hid (show c.rcall 0 n to = c.rack n to from rfl)
    have HR := Lib.hid (show c.res 0 = false from rfl)
    go_enter Tryd.func20, Tryd.ntmps20
    go_wp2_with fail
    refine (rack_any B c n to hok.1 hok.2.1 hok.2.2.1 hok.2.2.2.1 _ (by exact h.alloc _)).mono ?_
    rintro e w1 ⟨rfl, hT, hc⟩
    go_wp2_with fail
    go_ret
    exact ⟨by rw [HR.out]; rfl, by rw [HM.out]; exact hT, hBx.trans hc⟩
  · by_cases k1' : k = 1
    · subst k1'
      have HM := Lib.hid (show c.rcall 1 n to = c.lost n to from rfl)
      have HR := Lib.hid (show c.res 1 = !c.on from rfl)
      clear k0
      go_enter Tryd.func20, Tryd.ntmps20
      go_wp2_with fail
      refine (rlost_any B c n to hn hok.1 hok.2.1 _ (by exact h.alloc _)).mono ?_
      rintro e w1 ⟨rfl, hT, hc⟩
      go_wp2_with fail
      go_ret
      exact ⟨by rw [HR.out]; rfl, by rw [HM.out]; exact hT, hBx.trans hc⟩
    · by_cases k2' : k = 2
      · subst k2'
        have HM := Lib.hid (show c.rcall 2 n to = c.rtime n from rfl)
        have HR := Lib.hid (show c.res 2 = false from rfl)
        clear k0 k1'
        go_enter Tryd.func20, Tryd.ntmps20
        go_wp2_with fail
        refine (rtime_any B c n to hn hok.1 hok.2.1 _ (by exact h.alloc _)).mono ?_
        rintro e w1 ⟨rfl, hT, hc⟩
        go_wp2_with fail
        go_ret
        exact ⟨by rw [HR.out]; rfl, by rw [HM.out]; exact hT, hBx.trans hc⟩
      · have HM := Lib.hid (show c.rcall k n to = c.setMSS n by unfold Cg.rcall; rw [if_neg k0, if_neg k1', if_neg k2'])
        have HR := Lib.hid (show c.res k = false by unfold Cg.res; rw [if_neg k1'])
        have b0 : (k == 0) = false := by rw [beq_eq_false_iff_ne]; exact k0
        have b1 : (k == 1) = false := by rw [beq_eq_false_iff_ne]; exact k1'
        have b2 : (k == 2) = false := by rw [beq_eq_false_iff_ne]; exact k2'
        clear k0 k1' k2'
        go_enter Tryd.func20, Tryd.ntmps20
        go_wp2_with fail
        refine (rmss_any B c n _ (by exact h.alloc _)).mono ?_
        rintro e w1 ⟨rfl, hT, hc⟩
        go_wp2_with fail
        go_ret
        exact ⟨by rw [HR.out]; rfl, by rw [HM.out]; exact hT, hBx.trans hc⟩
end Go.Proofs.YtnjfpkjfacopkaaDoor
