/- CongestionHalvesOnce: its walk. -/
import Derived.Test.YtnjfpkjfacopkaaDoorCgSane
namespace Go.Proofs.YtnjfpkjfacopkaaDoor
open Go.RowKit
theorem lost_again {c : Cg} (h : c.on = true) (f n : Int) : c.lost f n = c := by unfold Cg.lost; rw [if_pos h]
set_option maxRecDepth 100000 in
set_option maxHeartbeats 4000000 in
theorem walk_CongestionHalvesOnce (w : World) (m : Int) (wm : (Lit.int .i64 m).wf = true) (fl : Int) (wf : (Lit.int .i64 fl).wf = true) (nx : Int) (wn : (Lit.int .i64 nx).wf = true) (ag : Int) (wa : (Lit.int .i64 ag).wf = true) (hL : ∃ a, ErrS a w) :
    Calls Tryd.prog 3 #[.int .i64 m, .int .i64 fl, .int .i64 nx, .int .i64 ag] w fun r w' => r = .returned (.bool true) ∧ Below w.heap.size w w' := by
  obtain ⟨a, he⟩ := hL
  obtain ⟨m1, m2⟩ := bounds_i64 wm
  obtain ⟨f1, f2⟩ := bounds_i64 wf
  have hnx : In64 nx := bounds_i64 wn
  have hag : In64 ag := bounds_i64 wa
  have hg : 0 < w.heap.size := he.2
  have HG := Lib.hid hg
  obtain ⟨p1, p2⟩ := pickV_bd m 997 (by omega)
  obtain ⟨q1, q2⟩ := pickV_bd fl 65536 (by omega)
  clear wm wf wn wa hg
  go_enter Tryd.func3, Tryd.ntmps3
  go_wp2_with fail
  refine (sane_any a _ he).mono ?_
  rintro e w1 ⟨rfl, hB⟩
  replace he := he.below hB HG.out
  go_wp2_with fail
  refine (size_any m _ m1 m2).mono ?_
  rintro e w2 ⟨rfl, rfl⟩
  generalize pickV m 997 = pm at *
  go_wp2_with fail
  refine (pick_any fl 65536 _ f1 f2 (by omega) (by omega)).mono ?_
  rintro e w2 ⟨rfl, rfl⟩
  generalize pickV fl 65536 = pf at *
  obtain ⟨ms, hms⟩ : ∃ ms : Int, 28 + pm = ms := ⟨_, rfl⟩
  rw [hms]
  have s1 : 28 ≤ ms := by omega
  have s2 : ms ≤ 1024 := by omega
  clear hms p1 p2
  go_wp2_with fail
  refine (new_good ms a _ he s1 s2).mono ?_
  rintro e w3 ⟨rfl, h, hb⟩
  have hN : w.heap.size ≤ w1.heap.size := hB.size
  replace hB := below_val hB hB.size hb
  clear hb he
  generalize w1.heap.size = B at *
  have ok0 := cg0_ok s1 s2
  have ok1 := Cg.lost_ok ok0 pf hnx
  have ok2 := Cg.acked_ok ok1 1 nx
  have HL1 := Lib.hid (show (cg0 ms).lost pf nx = ⟨ms, halfV ms pf, halfV ms pf, true, nx⟩ from rfl)
  have HA := Lib.hid (show (⟨ms, halfV ms pf, halfV ms pf, true, nx⟩ : Cg).acked 1 nx = ⟨ms, halfV ms pf, halfV ms pf, false, 0⟩ by unfold Cg.acked; rw [if_pos rfl, if_pos (Int.le_refl _)])
  have HV := Lib.hid (show halfV ms pf = max (pf / 2) (2 * ms) by unfold halfV; rw [Int.tdiv_eq_ediv_of_nonneg q1]; omega)
  rw [HL1.out] at ok1 ok2
  rw [HA.out] at ok2
  have hpf : In64 pf := by unfold In64; omega
  generalize halfV ms pf = v at *
  go_wp2_with fail
  refine (lost_any B _ pf nx hpf ok0 _ h).mono ?_
  rintro e w4 ⟨rfl, hT, hc⟩
  rw [HL1.out] at hT
  replace hB := below_chg hB hN h.lt hc
  clear hc h
  go_wp2_with fail
  refine (window_any B _ _ hT).mono ?_
  rintro e w5 ⟨rfl, rfl⟩
  go_wp2_with fail
  refine (lost_any B _ ag nx hag ok1 _ hT).mono ?_
  rintro e w6 ⟨rfl, hT2, hc⟩
  rw [lost_again rfl] at hT2
  replace hB := below_chg hB hN hT.lt hc
  clear hc hT
  go_wp2_with fail
  refine (window_any B _ _ hT2).mono ?_
  rintro e w7 ⟨rfl, rfl⟩
  go_wp2_with fail
  refine (acked_any B _ 1 nx ok1 _ hT2).mono ?_
  rintro e w8 ⟨rfl, hT3, hc⟩
  rw [HA.out] at hT3
  replace hB := below_chg hB hN hT2.lt hc
  clear hc hT2
  by_cases hmx : pf / 2 < 2 * ms
  · obtain rfl : v = 2 * ms := by have := HV.out; omega
    go_wp2_with fail
    refine (recovering_any B _ ok2 _ hT3).mono ?_
    rintro e w9 ⟨rfl, rfl⟩
    go_wp2_with fail
    refine (window_any B _ _ hT3).mono ?_
    rintro e w10 ⟨rfl, rfl⟩
    go_wp2_with fail
    refine (lost_any B _ ag nx hag ok2 _ hT3).mono ?_
    rintro e w11 ⟨rfl, hT4, hc⟩
    replace hB := below_chg hB hN hT3.lt hc
    go_wp2_with fail
    go_ret
    exact ⟨rfl, hB⟩
  · obtain rfl : v = pf / 2 := by have := HV.out; omega
    go_wp2_with fail
    refine (recovering_any B _ ok2 _ hT3).mono ?_
    rintro e w9 ⟨rfl, rfl⟩
    go_wp2_with fail
    refine (window_any B _ _ hT3).mono ?_
    rintro e w10 ⟨rfl, rfl⟩
    go_wp2_with fail
    refine (lost_any B _ ag nx hag ok2 _ hT3).mono ?_
    rintro e w11 ⟨rfl, hT4, hc⟩
    replace hB := below_chg hB hN hT3.lt hc
    go_wp2_with fail
    go_ret
    exact ⟨rfl, hB⟩
end Go.Proofs.YtnjfpkjfacopkaaDoor
