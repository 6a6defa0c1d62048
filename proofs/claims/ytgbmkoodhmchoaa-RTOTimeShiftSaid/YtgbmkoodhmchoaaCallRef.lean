/- The reference's timer. -/
import Derived.Test.YtgbmkoodhmchoaaCallPlain
import Derived.Test.YtgbmkoodhmchoaaBlk
import Derived.Outline
namespace Go.Proofs.Ytgbmkoodhmchoaa
open Go.RowKit
def rtCells (m : Tm) : Array Value := #[.bool m.timing, .int .i64 m.goal, .int .i64 m.since, .bool m.had, .int .i64 m.trip, .int .i64 m.dev, .int .i64 m.backs]
/-- Block B holds the reference's timer m. -/
def Rim (B : Nat) (m : Tm) (w : World) : Prop := ∃ t, w.heap[B]? = some (.cells (rtCells m) t (0, 0))
theorem Rim.cells {B : Nat} {m : Tm} {w : World} (h : Rim B m w) :
    w.cell? ⟨B, 0, none⟩ = some (.bool m.timing) ∧ w.cell? ⟨B, 1, none⟩ = some (.int .i64 m.goal) ∧ w.cell? ⟨B, 2, none⟩ = some (.int .i64 m.since) ∧ w.cell? ⟨B, 3, none⟩ = some (.bool m.had) ∧ w.cell? ⟨B, 4, none⟩ = some (.int .i64 m.trip) ∧ w.cell? ⟨B, 5, none⟩ = some (.int .i64 m.dev) ∧ w.cell? ⟨B, 6, none⟩ = some (.int .i64 m.backs) := by
  obtain ⟨t, ht⟩ := h
  refine ⟨?_, ?_, ?_, ?_, ?_, ?_, ?_⟩ <;> (rw [cell_of_row _ _ _ _ _ _ ht]; rfl)
theorem Rim.free {B : Nat} {m : Tm} {w : World} (h : Rim B m w) (i : Nat) : w.frozen? ⟨B, i, none⟩ = false := by
  obtain ⟨t, ht⟩ := h
  exact frozen_of_row _ _ _ _ _ ht
theorem Rim.lt {B : Nat} {m : Tm} {w : World} (h : Rim B m w) : B < w.heap.size := by
  obtain ⟨t, ht⟩ := h
  exact (Array.getElem?_eq_some_iff.1 ht).1
theorem Rim.drew {B : Nat} {m : Tm} {w : World} (h : Rim B m w) : Rim B m w.drew := h
theorem Rim.set {B : Nat} {m : Tm} {w : World} (h : Rim B m w) (i : Nat) (v : Value) (m' : Tm) (he : (rtCells m).setIfInBounds i v = rtCells m') : Rim B m' (w.setCell ⟨B, i, none⟩ v) := by
  obtain ⟨t, ht⟩ := h
  exact ⟨t, by rw [heap_setCell_same _ _ _ _ _ _ ht, he]⟩
theorem Rim.below {B : Nat} {m : Tm} {w w' : World} (h : Rim B m w) (hb : Below w.heap.size w w') : Rim B m w' := by
  have hl := h.lt
  obtain ⟨t, ht⟩ := h
  exact ⟨t, by rw [hb.block B hl]; exact ht⟩
theorem Rim.other {B C : Nat} {m : Tm} {w w' : World} (h : Rim B m w) (hc : Chg C w w') (hne : B ≠ C) : Rim B m w' := by
  obtain ⟨t, ht⟩ := h
  exact ⟨t, hc.other ht hne⟩
theorem Rim.new (w : World) (t : TypeId) : Rim w.heap.size tm0 (w.alloc (.cells (rtCells tm0) t)) := ⟨t, heap_alloc_new _ _⟩
theorem Rim.new_eq {w w' : World} {t : TypeId} (e : w' = w.alloc (.cells (rtCells tm0) t)) : Rim w.heap.size tm0 w' := by rw [e]; exact Rim.new w t
set_option maxHeartbeats 400000 in
theorem rnew_any (w : World) : Calls Try.prog 12 #[] w fun e w' => e = .returned (.pointer (some ⟨w.heap.size, 0, none⟩)) ∧ w' = w.alloc (.cells (rtCells tm0) 49) := by
  go_enter Try.func12, Try.ntmps12
  go_wp2
  go_ret
  exact ⟨rfl, rfl⟩
set_option maxHeartbeats 400000 in
theorem rsent_any (B : Nat) (m : Tm) (now n : Int) (w : World) (h : Rim B m w) :
    Calls Try.prog 25 #[.pointer (some ⟨B, 0, none⟩), .int .i64 now, .int .i64 n] w fun e w' => e = .returned (.tuple #[]) ∧ Rim B (m.sent now n) w' ∧ Chg B w w' := by
  obtain ⟨c0, c1, c2, c3, c4, c5, c6⟩ := h.cells
  have f0 := h.free 0
  have f1 := h.free 1
  have f2 := h.free 2
  by_cases ht : m.timing = true
  · have HM := Lib.hid (show m.sent now n = m by unfold Tm.sent; rw [if_pos ht])
    rw [ht] at c0
    clear ht
    go_enter Try.func25, Try.ntmps25
    go_wp2
    go_end0
    exact ⟨rfl, by rw [HM.out]; exact h, Chg.refl _ _⟩
  · have HM := Lib.hid (show m.sent now n = { m with timing := true, goal := n, since := now } by unfold Tm.sent; rw [if_neg ht])
    have ht' : m.timing = false := by simpa using ht
    rw [ht'] at c0
    clear ht
    have HT := Lib.hid ht'
    clear ht'
    go_enter Try.func25, Try.ntmps25
    go_wp2
    go_end0
    refine ⟨rfl, ?_, (((Chg.refl _ _).setCell _ _).setCell _ _).setCell _ _⟩
    rw [HM.out]
    exact ((h.set 0 _ { m with timing := true } rfl).set 1 _ { m with timing := true, goal := n } rfl).set 2 _ _ rfl
set_option maxHeartbeats 400000 in
theorem rretr_any (B : Nat) (m : Tm) (w : World) (h : Rim B m w) :
    Calls Try.prog 26 #[.pointer (some ⟨B, 0, none⟩)] w fun e w' => e = .returned (.tuple #[]) ∧ Rim B m.retr w' ∧ Chg B w w' := by
  obtain ⟨c0, c1, c2, c3, c4, c5, c6⟩ := h.cells
  have f0 := h.free 0
  go_enter Try.func26, Try.ntmps26
  go_wp2
  go_end0
  exact ⟨rfl, h.set 0 _ _ rfl, (Chg.refl _ _).setCell _ _⟩
set_option maxHeartbeats 400000 in
theorem rback_any (B : Nat) (m : Tm) (w : World) (h : Rim B m w) (h1 : 0 ≤ m.backs) (h2 : m.backs ≤ 1000) :
    Calls Try.prog 28 #[.pointer (some ⟨B, 0, none⟩)] w fun e w' => e = .returned (.tuple #[]) ∧ Rim B m.rback w' ∧ Chg B w w' := by
  obtain ⟨c0, c1, c2, c3, c4, c5, c6⟩ := h.cells
  have f6 := h.free 6
  go_enter Try.func28, Try.ntmps28
  go_wp2
  go_end0
  exact ⟨rfl, h.set 6 _ _ rfl, (Chg.refl _ _).setCell _ _⟩
set_option maxHeartbeats 800000 in
theorem rsample_any (since now : Int) (hs : In64 since) (hn : In64 now) (w : World) :
    Calls Try.prog 35 #[.int .i64 now, .int .i64 since] w fun e w' => e = .returned (.int .i64 (elapsedV since now)) ∧ w = w' := by
  obtain ⟨hs1, hs2⟩ := hs
  obtain ⟨hn1, hn2⟩ := hn
  by_cases h1 : now ≤ since
  · have H := Lib.hid (show (1 : Int) = elapsedV since now by unfold elapsedV; rw [if_pos h1])
    go_enter Try.func35, Try.ntmps35
    go_wp2
    go_ret
    exact ⟨ret_i H.out, rfl⟩
  · go_enter Try.func35, Try.ntmps35
    go_wp2
    · have hx := h
      clear h
      go_ret
      refine ⟨ret_i ?_, rfl⟩
      have hd := u64diff since now hs1 hs2 hn1 hn2 (by omega)
      rw [hd] at hx
      unfold elapsedV
      rw [if_neg (by omega), if_neg (by omega)]
      exact IntWalk.wrap64_in 1000 (by omega)
    · have hx := h
      clear h
      go_ret
      refine ⟨ret_i ?_, rfl⟩
      have hd := u64diff since now hs1 hs2 hn1 hn2 (by omega)
      rw [hd] at hx ⊢
      unfold elapsedV
      rw [if_neg (by omega), IntWalk.wrap64_in _ (by omega)]
      by_cases c : now - since < 1000
      · rw [if_pos c]
      · rw [if_neg c]; omega
set_option maxHeartbeats 1600000 in
theorem racked_any (B : Nat) (m : Tm) (now una : Int) (hn : In64 now) (hok : m.cut.Fit) (w : World) (h : Rim B m w) :
    Calls Try.prog 27 #[.pointer (some ⟨B, 0, none⟩), .int .i64 now, .int .i64 una] w fun e w' => e = .returned (.tuple #[]) ∧ Rim B (m.acked now una) w' ∧ Chg B w w' := by
  obtain ⟨c0, c1, c2, c3, c4, c5, c6⟩ := h.cells
  by_cases ht : m.timing = true
  · by_cases hg : m.goal ≤ una
    · have HM := Lib.hid (show m.acked now una = Tm.sample { m with timing := false, backs := 0 } (elapsedV m.since now) by unfold Tm.acked; rw [if_pos ⟨ht, hg⟩])
      rw [ht] at c0
      have f0 := h.free 0
      have f6 := h.free 6
      obtain ⟨⟨o1, o2, o3, o4, -, -⟩, hsi⟩ := hok
      have HEl := Lib.hid (fun W => rsample_any m.since now hsi hn W)
      obtain ⟨r1, r2⟩ := elapsedV_bd m.since now
      have hgl : ¬ una < m.goal := by omega
      have HTT := Lib.hid ((h.set 0 (.bool false) { m with timing := false } rfl).set 6 (.int .i64 0) { m with timing := false, backs := 0 } rfl)
      have HCC := Lib.hid (((Chg.refl B w).setCell 0 (.bool false)).setCell 6 (.int .i64 0))
      replace o1 : 0 ≤ m.trip := o1
      replace o2 : m.trip ≤ 8000 := o2
      replace o3 : 0 ≤ m.dev := o3
      replace o4 : m.dev ≤ 4003 := o4
      clear hsi
      go_enter Try.func27, Try.ntmps27
      go_wp2_with fail
      obtain ⟨W1, hW1⟩ : ∃ W1, (w.setCell ⟨B, 0, none⟩ (.bool false)).setCell ⟨B, 6, none⟩ (.int .i64 0) = W1 := ⟨_, rfl⟩
      rw [hW1] at HTT HCC ⊢
      clear c0 c1 c2 c3 c4 c5 c6 f0 f6 hW1
      obtain ⟨c0, c1, c2, c3, c4, c5, c6⟩ := HTT.out.cells
      replace c2 : W1.cell? ⟨B, 2, none⟩ = some (.int .i64 m.since) := c2
      replace c3 : W1.cell? ⟨B, 3, none⟩ = some (.bool m.had) := c3
      replace c4 : W1.cell? ⟨B, 4, none⟩ = some (.int .i64 m.trip) := c4
      replace c5 : W1.cell? ⟨B, 5, none⟩ = some (.int .i64 m.dev) := c5
      clear c0 c1 c6
      refine (HEl.out _).mono ?_
      rintro e w1 ⟨rfl, rfl⟩
      generalize elapsedV m.since now = r at *
      by_cases hh : m.had = true
      · have HM2 := Lib.hid (show Tm.sample { m with timing := false, backs := 0 } r = { m with timing := false, backs := 0, trip := m.trip + (r - m.trip / 8), dev := m.dev + (max (r - m.trip / 8) (-(r - m.trip / 8)) - m.dev / 4) } by unfold Tm.sample; rw [if_pos hh])
        rw [hh] at c3
        have f4 := HTT.out.free 4
        have f5 := HTT.out.free 5
        clear hh
        go_wp2_with fail
        obtain ⟨d, hd⟩ : ∃ d, r - m.trip / 8 = d := ⟨_, rfl⟩
        rw [hd] at HM2 ⊢
        have hd1 : -1000 ≤ d := by omega
        have hd2 : d ≤ 1000 := by omega
        clear hd
        generalize hw1 : W1.setCell ⟨B, 4, none⟩ (.int .i64 (m.trip + d)) = W2
        have c5' : W2.cell? ⟨B, 5, none⟩ = some (.int .i64 m.dev) := by rw [← hw1]; rw [World.cell?_setCell_other _ _ _ _ (by simp)]; exact c5
        have f5' : W2.frozen? ⟨B, 5, none⟩ = false := by rw [← hw1, World.frozen?_setCell]; exact f5
        have HT : Hid (Rim B { m with timing := false, backs := 0, trip := m.trip + d } W2) := by rw [← hw1]; exact HTT.out.set 4 _ _ rfl
        have HC : Hid (Chg B w W2) := by rw [← hw1]; exact HCC.out.setCell _ _
        clear hw1 c2 c3 c4 c5 f4 f5 HTT HCC
        have e1 : IntKind.i64.wrap (-d) = -d := IntWalk.i64_in _ (by omega)
        by_cases hneg : d < 0
        · have e2 : IntKind.i64.wrap (m.dev + -d) = m.dev + -d := IntWalk.i64_in _ (by omega)
          have e3 : IntKind.i64.wrap (m.dev + -d - m.dev / 4) = m.dev + -d - m.dev / 4 := IntWalk.i64_in _ (by omega)
          have e4 : d < -d := by omega
          go_region
          go_wp2
          go_end0
          refine ⟨rfl, ?_, (HC.out.setCell _ _).drew⟩
          rw [HM.out, HM2.out, show max d (-d) = -d by omega, show m.dev + (-d - m.dev / 4) = m.dev + -d - m.dev / 4 by omega]
          exact (HT.out.set 5 (.int .i64 (m.dev + -d - m.dev / 4)) { m with timing := false, backs := 0, trip := m.trip + d, dev := m.dev + -d - m.dev / 4 } rfl).drew
        · have e2 : IntKind.i64.wrap (m.dev + d) = m.dev + d := IntWalk.i64_in _ (by omega)
          have e3 : IntKind.i64.wrap (m.dev + d - m.dev / 4) = m.dev + d - m.dev / 4 := IntWalk.i64_in _ (by omega)
          have e4 : ¬ d < -d := by omega
          go_region
          go_wp2
          go_end0
          refine ⟨rfl, ?_, (HC.out.setCell _ _).drew⟩
          rw [HM.out, HM2.out, show max d (-d) = d by omega, show m.dev + (d - m.dev / 4) = m.dev + d - m.dev / 4 by omega]
          exact (HT.out.set 5 (.int .i64 (m.dev + d - m.dev / 4)) { m with timing := false, backs := 0, trip := m.trip + d, dev := m.dev + d - m.dev / 4 } rfl).drew
      · have hh' : m.had = false := by simpa using hh
        have HM2 := Lib.hid (show Tm.sample { m with timing := false, backs := 0 } r = { m with timing := false, backs := 0, had := true, trip := 8 * r, dev := 2 * r } by unfold Tm.sample; rw [if_neg hh])
        rw [hh'] at c3
        have f3 := HTT.out.free 3
        have f4 := HTT.out.free 4
        have f5 := HTT.out.free 5
        clear hh hh'
        go_wp2_with fail
        refine bodyPost_ret (results_none rfl _ _ _) rfl ⟨rfl, ?_, ((HCC.out.setCell _ _).setCell _ _).setCell _ _⟩
        rw [HM.out, HM2.out]
        exact ((HTT.out.set 3 _ { m with timing := false, backs := 0, had := true } rfl).set 4 _ { m with timing := false, backs := 0, had := true, trip := 8 * r } rfl).set 5 _ _ rfl
    · have HM := Lib.hid (show m.acked now una = m by unfold Tm.acked; rw [if_neg (fun x => hg x.2)])
      rw [ht] at c0
      have hgl : una < m.goal := by omega
      go_enter Try.func27, Try.ntmps27
      go_wp2_with fail
      exact bodyPost_ret (results_none rfl _ _ _) rfl ⟨rfl, by rw [HM.out]; exact h, Chg.refl _ _⟩
  · have HM := Lib.hid (show m.acked now una = m by unfold Tm.acked; rw [if_neg (fun x => ht x.1)])
    have ht' : m.timing = false := by simpa using ht
    rw [ht'] at c0
    clear ht ht'
    go_enter Try.func27, Try.ntmps27
    go_wp2_with fail
    exact bodyPost_ret (results_none rfl _ _ _) rfl ⟨rfl, by rw [HM.out]; exact h, Chg.refl _ _⟩
theorem dbl_bd (b : Int) (hb : 4 ≤ b) (j : Nat) : 4 ≤ min (b * 2 ^ j) 240 ∧ min (b * 2 ^ j) 240 ≤ 240 := by
  have hp : (1 : Int) ≤ 2 ^ j := by
    have := Nat.one_le_two_pow (n := j)
    have e : ((2 ^ j : Nat) : Int) = (2 : Int) ^ j := by simp
    omega
  have : b * 1 ≤ b * 2 ^ j := Int.mul_le_mul_of_nonneg_left hp (by omega)
  omega
set_option maxHeartbeats 3200000 in
theorem rvalue_any (B : Nat) (m : Tm) (hok : m.cut.Ok) (hb1 : 0 ≤ m.backs) (hb2 : m.backs ≤ 1000) (w : World) (h : Rim B m w) :
    Calls Try.prog 17 #[.pointer (some ⟨B, 0, none⟩)] w fun e w' => e = .returned (.int .i64 m.cut.value) ∧ Below w.heap.size w w' := by
  obtain ⟨c0, c1, c2, c3, c4, c5, c6⟩ := h.cells
  rw [Tm.cut_value m hb1]
  obtain ⟨o1, o2, o3, o4, -, -⟩ := hok
  replace o1 : 0 ≤ m.trip := o1
  replace o2 : m.trip ≤ 8000 := o2
  replace o3 : 0 ≤ m.dev := o3
  replace o4 : m.dev ≤ 4003 := o4
  clear c0 c1 c2 h
  obtain ⟨nb, hnb⟩ := Int.eq_ofNat_of_zero_le hb1
  rw [hnb] at c6 hb2 ⊢
  rw [Int.toNat_natCast]
  clear hnb hb1
  obtain ⟨b1, b2⟩ := m.base_bd
  by_cases hh : m.had = true
  · have HV := Lib.hid (show min (max (m.trip / 8 + max m.dev 1) 4) 240 = m.base by unfold Tm.base; rw [if_pos hh])
    rw [hh] at c3
    clear hh
    obtain ⟨tp, htp⟩ : ∃ tp : Int, m.trip / 8 = tp := ⟨_, rfl⟩
    have t1 : 0 ≤ tp := by omega
    have t2 : tp ≤ 1000 := by omega
    have t0 : m.trip.tdiv 8 = tp := by rw [Int.tdiv_eq_ediv_of_nonneg o1]; exact htp
    have t3 : IntKind.i64.wrap tp = tp := IntWalk.i64_in _ (by omega)
    rw [htp] at HV
    have HTP := Lib.hid htp
    clear htp
    by_cases hd : m.dev < 1
    · have e1 : IntKind.i64.wrap (tp + 1) = tp + 1 := IntWalk.i64_in _ (by omega)
      by_cases hlo : tp + 1 < 4
      · have HB := Lib.hid (show (4 : Int) = m.base by rw [← HV.out]; omega)
        have g2 : ¬ (240 : Int) < 4 := by omega
        generalize m.base = bs at *
        go_enter Try.func17, Try.ntmps17
        go_wp2_with fail
        go_region
        go_wp2_with fail
        clear e1 t0 t3
        go_loop [3, 4] (fun v i => ∃ k : Nat, k ≤ nb ∧ i = .int .i64 k ∧ v = .int .i64 (min (bs * 2 ^ k) 240)) (fun _ i => 1000 - (intOf i).toNat)
        case atStart => exact ⟨0, Nat.zero_le _, rfl, congrArg (Value.int .i64) (by have := HB.out; rw [show bs * 2 ^ 0 = bs by omega]; omega)⟩
        case round =>
          obtain ⟨k, hk, rfl, rfl⟩ := hrel
          obtain ⟨x1, x2⟩ := dbl_bd bs b1 k
          have HX := Lib.hid (dbl_step bs k)
          have HTOP := Lib.hid (fun h => dbl_top bs k nb hk h)
          generalize hx : min (bs * 2 ^ k) 240 = x at *
          have HXX := Lib.hid hx
          clear hx
          by_cases hlt : k < nb
          · by_cases hx2 : x < 240
            · have f1 : (k : Int) < nb := by omega
              by_cases hx3 : 240 < 2 * x
              · have HY := Lib.hid (show (240 : Int) = min (bs * 2 ^ (k + 1)) 240 by rw [← HX.out]; omega)
                go_wp2_with fail
                go_round
                case rel => exact ⟨k + 1, by omega, by go_num, by rw [← HY.out]⟩
                case measure => simp [intOf]; omega
              · have HY := Lib.hid (show 2 * x = min (bs * 2 ^ (k + 1)) 240 by rw [← HX.out]; omega)
                go_wp2_with fail
                go_round
                case rel => exact ⟨k + 1, by omega, by go_num, by rw [← HY.out]⟩
                case measure => simp [intOf]; omega
            · have HY := Lib.hid (show x = min (bs * 2 ^ nb) 240 by rw [HTOP.out (by have := HXX.out; omega)]; omega)
              have f1 : (k : Int) < nb := by omega
              go_wp2_with fail
              go_ret
              exact ⟨ret_i HY.out, ((Below.refl _ _).drew)⟩
          · obtain rfl : k = nb := by omega
            go_wp2_with fail
            go_ret
            exact ⟨ret_i HXX.out.symm, ((Below.refl _ _).drew)⟩
      by_cases hhi : 240 < tp + 1
      · have HB := Lib.hid (show (240 : Int) = m.base by rw [← HV.out]; omega)
        generalize m.base = bs at *
        go_enter Try.func17, Try.ntmps17
        go_wp2_with fail
        go_region
        go_wp2_with fail
        clear e1 t0 t3
        go_loop [3, 4] (fun v i => ∃ k : Nat, k ≤ nb ∧ i = .int .i64 k ∧ v = .int .i64 (min (bs * 2 ^ k) 240)) (fun _ i => 1000 - (intOf i).toNat)
        case atStart => exact ⟨0, Nat.zero_le _, rfl, congrArg (Value.int .i64) (by have := HB.out; rw [show bs * 2 ^ 0 = bs by omega]; omega)⟩
        case round =>
          obtain ⟨k, hk, rfl, rfl⟩ := hrel
          obtain ⟨x1, x2⟩ := dbl_bd bs b1 k
          have HX := Lib.hid (dbl_step bs k)
          have HTOP := Lib.hid (fun h => dbl_top bs k nb hk h)
          generalize hx : min (bs * 2 ^ k) 240 = x at *
          have HXX := Lib.hid hx
          clear hx
          by_cases hlt : k < nb
          · by_cases hx2 : x < 240
            · have f1 : (k : Int) < nb := by omega
              by_cases hx3 : 240 < 2 * x
              · have HY := Lib.hid (show (240 : Int) = min (bs * 2 ^ (k + 1)) 240 by rw [← HX.out]; omega)
                go_wp2_with fail
                go_round
                case rel => exact ⟨k + 1, by omega, by go_num, by rw [← HY.out]⟩
                case measure => simp [intOf]; omega
              · have HY := Lib.hid (show 2 * x = min (bs * 2 ^ (k + 1)) 240 by rw [← HX.out]; omega)
                go_wp2_with fail
                go_round
                case rel => exact ⟨k + 1, by omega, by go_num, by rw [← HY.out]⟩
                case measure => simp [intOf]; omega
            · have HY := Lib.hid (show x = min (bs * 2 ^ nb) 240 by rw [HTOP.out (by have := HXX.out; omega)]; omega)
              have f1 : (k : Int) < nb := by omega
              go_wp2_with fail
              go_ret
              exact ⟨ret_i HY.out, ((Below.refl _ _).drew)⟩
          · obtain rfl : k = nb := by omega
            go_wp2_with fail
            go_ret
            exact ⟨ret_i HXX.out.symm, ((Below.refl _ _).drew)⟩
      · have HB := Lib.hid (show (tp + 1 : Int) = m.base by rw [← HV.out]; omega)
        generalize m.base = bs at *
        go_enter Try.func17, Try.ntmps17
        go_wp2_with fail
        go_region
        go_wp2_with fail
        clear e1 t0 t3
        go_loop [3, 4] (fun v i => ∃ k : Nat, k ≤ nb ∧ i = .int .i64 k ∧ v = .int .i64 (min (bs * 2 ^ k) 240)) (fun _ i => 1000 - (intOf i).toNat)
        case atStart => exact ⟨0, Nat.zero_le _, rfl, congrArg (Value.int .i64) (by have := HB.out; rw [show bs * 2 ^ 0 = bs by omega]; omega)⟩
        case round =>
          obtain ⟨k, hk, rfl, rfl⟩ := hrel
          obtain ⟨x1, x2⟩ := dbl_bd bs b1 k
          have HX := Lib.hid (dbl_step bs k)
          have HTOP := Lib.hid (fun h => dbl_top bs k nb hk h)
          generalize hx : min (bs * 2 ^ k) 240 = x at *
          have HXX := Lib.hid hx
          clear hx
          by_cases hlt : k < nb
          · by_cases hx2 : x < 240
            · have f1 : (k : Int) < nb := by omega
              by_cases hx3 : 240 < 2 * x
              · have HY := Lib.hid (show (240 : Int) = min (bs * 2 ^ (k + 1)) 240 by rw [← HX.out]; omega)
                go_wp2_with fail
                go_round
                case rel => exact ⟨k + 1, by omega, by go_num, by rw [← HY.out]⟩
                case measure => simp [intOf]; omega
              · have HY := Lib.hid (show 2 * x = min (bs * 2 ^ (k + 1)) 240 by rw [← HX.out]; omega)
                go_wp2_with fail
                go_round
                case rel => exact ⟨k + 1, by omega, by go_num, by rw [← HY.out]⟩
                case measure => simp [intOf]; omega
            · have HY := Lib.hid (show x = min (bs * 2 ^ nb) 240 by rw [HTOP.out (by have := HXX.out; omega)]; omega)
              have f1 : (k : Int) < nb := by omega
              go_wp2_with fail
              go_ret
              exact ⟨ret_i HY.out, ((Below.refl _ _).drew)⟩
          · obtain rfl : k = nb := by omega
            go_wp2_with fail
            go_ret
            exact ⟨ret_i HXX.out.symm, ((Below.refl _ _).drew)⟩
    · have e1 : IntKind.i64.wrap (tp + m.dev) = tp + m.dev := IntWalk.i64_in _ (by omega)
      by_cases hlo : tp + m.dev < 4
      · have HB := Lib.hid (show (4 : Int) = m.base by rw [← HV.out]; omega)
        have g2 : ¬ (240 : Int) < 4 := by omega
        generalize m.base = bs at *
        go_enter Try.func17, Try.ntmps17
        go_wp2_with fail
        go_region
        go_wp2_with fail
        clear e1 t0 t3
        go_loop [3, 4] (fun v i => ∃ k : Nat, k ≤ nb ∧ i = .int .i64 k ∧ v = .int .i64 (min (bs * 2 ^ k) 240)) (fun _ i => 1000 - (intOf i).toNat)
        case atStart => exact ⟨0, Nat.zero_le _, rfl, congrArg (Value.int .i64) (by have := HB.out; rw [show bs * 2 ^ 0 = bs by omega]; omega)⟩
        case round =>
          obtain ⟨k, hk, rfl, rfl⟩ := hrel
          obtain ⟨x1, x2⟩ := dbl_bd bs b1 k
          have HX := Lib.hid (dbl_step bs k)
          have HTOP := Lib.hid (fun h => dbl_top bs k nb hk h)
          generalize hx : min (bs * 2 ^ k) 240 = x at *
          have HXX := Lib.hid hx
          clear hx
          by_cases hlt : k < nb
          · by_cases hx2 : x < 240
            · have f1 : (k : Int) < nb := by omega
              by_cases hx3 : 240 < 2 * x
              · have HY := Lib.hid (show (240 : Int) = min (bs * 2 ^ (k + 1)) 240 by rw [← HX.out]; omega)
                go_wp2_with fail
                go_round
                case rel => exact ⟨k + 1, by omega, by go_num, by rw [← HY.out]⟩
                case measure => simp [intOf]; omega
              · have HY := Lib.hid (show 2 * x = min (bs * 2 ^ (k + 1)) 240 by rw [← HX.out]; omega)
                go_wp2_with fail
                go_round
                case rel => exact ⟨k + 1, by omega, by go_num, by rw [← HY.out]⟩
                case measure => simp [intOf]; omega
            · have HY := Lib.hid (show x = min (bs * 2 ^ nb) 240 by rw [HTOP.out (by have := HXX.out; omega)]; omega)
              have f1 : (k : Int) < nb := by omega
              go_wp2_with fail
              go_ret
              exact ⟨ret_i HY.out, ((Below.refl _ _).drew)⟩
          · obtain rfl : k = nb := by omega
            go_wp2_with fail
            go_ret
            exact ⟨ret_i HXX.out.symm, ((Below.refl _ _).drew)⟩
      by_cases hhi : 240 < tp + m.dev
      · have HB := Lib.hid (show (240 : Int) = m.base by rw [← HV.out]; omega)
        generalize m.base = bs at *
        go_enter Try.func17, Try.ntmps17
        go_wp2_with fail
        go_region
        go_wp2_with fail
        clear e1 t0 t3
        go_loop [3, 4] (fun v i => ∃ k : Nat, k ≤ nb ∧ i = .int .i64 k ∧ v = .int .i64 (min (bs * 2 ^ k) 240)) (fun _ i => 1000 - (intOf i).toNat)
        case atStart => exact ⟨0, Nat.zero_le _, rfl, congrArg (Value.int .i64) (by have := HB.out; rw [show bs * 2 ^ 0 = bs by omega]; omega)⟩
        case round =>
          obtain ⟨k, hk, rfl, rfl⟩ := hrel
          obtain ⟨x1, x2⟩ := dbl_bd bs b1 k
          have HX := Lib.hid (dbl_step bs k)
          have HTOP := Lib.hid (fun h => dbl_top bs k nb hk h)
          generalize hx : min (bs * 2 ^ k) 240 = x at *
          have HXX := Lib.hid hx
          clear hx
          by_cases hlt : k < nb
          · by_cases hx2 : x < 240
            · have f1 : (k : Int) < nb := by omega
              by_cases hx3 : 240 < 2 * x
              · have HY := Lib.hid (show (240 : Int) = min (bs * 2 ^ (k + 1)) 240 by rw [← HX.out]; omega)
                go_wp2_with fail
                go_round
                case rel => exact ⟨k + 1, by omega, by go_num, by rw [← HY.out]⟩
                case measure => simp [intOf]; omega
              · have HY := Lib.hid (show 2 * x = min (bs * 2 ^ (k + 1)) 240 by rw [← HX.out]; omega)
                go_wp2_with fail
                go_round
                case rel => exact ⟨k + 1, by omega, by go_num, by rw [← HY.out]⟩
                case measure => simp [intOf]; omega
            · have HY := Lib.hid (show x = min (bs * 2 ^ nb) 240 by rw [HTOP.out (by have := HXX.out; omega)]; omega)
              have f1 : (k : Int) < nb := by omega
              go_wp2_with fail
              go_ret
              exact ⟨ret_i HY.out, ((Below.refl _ _).drew)⟩
          · obtain rfl : k = nb := by omega
            go_wp2_with fail
            go_ret
            exact ⟨ret_i HXX.out.symm, ((Below.refl _ _).drew)⟩
      · have HB := Lib.hid (show (tp + m.dev : Int) = m.base by rw [← HV.out]; omega)
        generalize m.base = bs at *
        go_enter Try.func17, Try.ntmps17
        go_wp2_with fail
        go_region
        go_wp2_with fail
        clear e1 t0 t3
        go_loop [3, 4] (fun v i => ∃ k : Nat, k ≤ nb ∧ i = .int .i64 k ∧ v = .int .i64 (min (bs * 2 ^ k) 240)) (fun _ i => 1000 - (intOf i).toNat)
        case atStart => exact ⟨0, Nat.zero_le _, rfl, congrArg (Value.int .i64) (by have := HB.out; rw [show bs * 2 ^ 0 = bs by omega]; omega)⟩
        case round =>
          obtain ⟨k, hk, rfl, rfl⟩ := hrel
          obtain ⟨x1, x2⟩ := dbl_bd bs b1 k
          have HX := Lib.hid (dbl_step bs k)
          have HTOP := Lib.hid (fun h => dbl_top bs k nb hk h)
          generalize hx : min (bs * 2 ^ k) 240 = x at *
          have HXX := Lib.hid hx
          clear hx
          by_cases hlt : k < nb
          · by_cases hx2 : x < 240
            · have f1 : (k : Int) < nb := by omega
              by_cases hx3 : 240 < 2 * x
              · have HY := Lib.hid (show (240 : Int) = min (bs * 2 ^ (k + 1)) 240 by rw [← HX.out]; omega)
                go_wp2_with fail
                go_round
                case rel => exact ⟨k + 1, by omega, by go_num, by rw [← HY.out]⟩
                case measure => simp [intOf]; omega
              · have HY := Lib.hid (show 2 * x = min (bs * 2 ^ (k + 1)) 240 by rw [← HX.out]; omega)
                go_wp2_with fail
                go_round
                case rel => exact ⟨k + 1, by omega, by go_num, by rw [← HY.out]⟩
                case measure => simp [intOf]; omega
            · have HY := Lib.hid (show x = min (bs * 2 ^ nb) 240 by rw [HTOP.out (by have := HXX.out; omega)]; omega)
              have f1 : (k : Int) < nb := by omega
              go_wp2_with fail
              go_ret
              exact ⟨ret_i HY.out, ((Below.refl _ _).drew)⟩
          · obtain rfl : k = nb := by omega
            go_wp2_with fail
            go_ret
            exact ⟨ret_i HXX.out.symm, ((Below.refl _ _).drew)⟩
  · have hh' : m.had = false := by simpa using hh
    have HB := Lib.hid (show (12 : Int) = m.base by unfold Tm.base; rw [if_neg hh])
    rw [hh'] at c3
    clear hh hh'
    generalize m.base = bs at *
    go_enter Try.func17, Try.ntmps17
    go_wp2_with fail
    go_loop [3, 4] (fun v i => ∃ k : Nat, k ≤ nb ∧ i = .int .i64 k ∧ v = .int .i64 (min (bs * 2 ^ k) 240)) (fun _ i => 1000 - (intOf i).toNat)
    case atStart => exact ⟨0, Nat.zero_le _, rfl, congrArg (Value.int .i64) (by have := HB.out; rw [show bs * 2 ^ 0 = bs by omega]; omega)⟩
    case round =>
      obtain ⟨k, hk, rfl, rfl⟩ := hrel
      obtain ⟨x1, x2⟩ := dbl_bd bs b1 k
      have HX := Lib.hid (dbl_step bs k)
      have HTOP := Lib.hid (fun h => dbl_top bs k nb hk h)
      generalize hx : min (bs * 2 ^ k) 240 = x at *
      have HXX := Lib.hid hx
      clear hx
      by_cases hlt : k < nb
      · by_cases hx2 : x < 240
        · have f1 : (k : Int) < nb := by omega
          by_cases hx3 : 240 < 2 * x
          · have HY := Lib.hid (show (240 : Int) = min (bs * 2 ^ (k + 1)) 240 by rw [← HX.out]; omega)
            go_wp2_with fail
            go_round
            case rel => exact ⟨k + 1, by omega, by go_num, by rw [← HY.out]⟩
            case measure => simp [intOf]; omega
          · have HY := Lib.hid (show 2 * x = min (bs * 2 ^ (k + 1)) 240 by rw [← HX.out]; omega)
            go_wp2_with fail
            go_round
            case rel => exact ⟨k + 1, by omega, by go_num, by rw [← HY.out]⟩
            case measure => simp [intOf]; omega
        · have HY := Lib.hid (show x = min (bs * 2 ^ nb) 240 by rw [HTOP.out (by have := HXX.out; omega)]; omega)
          have f1 : (k : Int) < nb := by omega
          go_wp2_with fail
          go_ret
          exact ⟨ret_i HY.out, (Below.refl _ _)⟩
      · obtain rfl : k = nb := by omega
        go_wp2_with fail
        go_ret
        exact ⟨ret_i HXX.out.symm, (Below.refl _ _)⟩
end Go.Proofs.Ytgbmkoodhmchoaa
