/- CongestionSlowStart: its walk. -/
import Derived.Test.YtnjfpkjfacopkaaDoorCgSane
namespace Go.Proofs.YtnjfpkjfacopkaaDoor
open Go.RowKit
theorem ss_step {m v sl : Int} (h1 : 28 ≤ m) (h2 : m ≤ 1024) (h3 : sl ≤ 32767) (h : v < sl) (una : Int) : (⟨m, v, sl, false, 0⟩ : Cg).acked m una = ⟨m, v + m, sl, false, 0⟩ := by
  unfold Cg.acked
  dsimp only
  rw [if_neg (by decide), if_neg (by omega), if_pos h, show min (v + min m m) 65535 = v + m by omega]
theorem ss_last {m v sl : Int} (h1 : 28 ≤ m) (hm : m ≤ 1024) (h3 : v ≤ 60000) (h : sl ≤ v) (h4 : 2 * m ≤ sl) (una : Int) : ∃ x, (⟨m, v, sl, false, 0⟩ : Cg).acked m una = ⟨m, v + x, sl, false, 0⟩ ∧ 1 ≤ x ∧ x < m := by
  have hx := avoidV_half (w := v) h1 (by omega)
  have hx1 : 1 ≤ avoidV m v := by unfold avoidV; omega
  refine ⟨avoidV m v, ?_, hx1, hx⟩
  unfold Cg.acked
  dsimp only
  rw [if_neg (by decide), if_neg (by omega), if_neg (by omega), show min (v + avoidV m v) 65535 = v + avoidV m v by omega]
set_option maxRecDepth 100000 in
set_option maxHeartbeats 4000000 in
theorem walk_CongestionSlowStart (w : World) (m : Int) (wm : (Lit.int .i64 m).wf = true) (fl : Int) (wf : (Lit.int .i64 fl).wf = true) (hL : ∃ a, ErrS a w) :
    Calls Tryd.prog 4 #[.int .i64 m, .int .i64 fl] w fun r w' => r = .returned (.bool true) ∧ Below w.heap.size w w' := by
  obtain ⟨a, he⟩ := hL
  obtain ⟨m1, m2⟩ := bounds_i64 wm
  obtain ⟨f1, f2⟩ := bounds_i64 wf
  have hg : 0 < w.heap.size := he.2
  have HG := Lib.hid hg
  obtain ⟨p1, p2⟩ := pickV_bd m 997 (by omega)
  obtain ⟨q1, q2⟩ := pickV_bd fl 65536 (by omega)
  clear wm wf hg
  go_enter Tryd.func4, Tryd.ntmps4
  go_wp2_with fail
  refine (sane_any a _ he).mono ?_
  rintro e w1 ⟨rfl, hB⟩
  replace he := he.below hB HG.out
  go_wp2_with fail
  refine (size_any m _ m1 m2).mono ?_
  rintro e w2 ⟨rfl, rfl⟩
  generalize pickV m 997 = pm at *
  go_wp2_with fail
  refine (pick_any fl 65536 _ f1 f2 (by omega) (by omega)).mono ?_
  rintro e w2 ⟨rfl, rfl⟩
  generalize pickV fl 65536 = pf at *
  obtain ⟨ms, hms⟩ : ∃ ms : Int, 28 + pm = ms := ⟨_, rfl⟩
  rw [hms]
  have s1 : 28 ≤ ms := by omega
  have s2 : ms ≤ 1024 := by omega
  clear hms p1 p2
  go_wp2_with fail
  refine (new_good ms a _ he s1 s2).mono ?_
  rintro e w3 ⟨rfl, h, hb⟩
  have hN : w.heap.size ≤ w1.heap.size := hB.size
  replace hB := below_val hB hB.size hb
  clear hb he
  generalize w1.heap.size = B at *
  have ok0 := cg0_ok s1 s2
  have ok1 := Cg.timeout_ok ok0 pf
  have HT := Lib.hid (show (cg0 ms).timeout pf = ⟨ms, ms, halfV ms pf, false, 0⟩ from rfl)
  have HV := Lib.hid (show halfV ms pf = max (pf / 2) (2 * ms) by unfold halfV; rw [Int.tdiv_eq_ediv_of_nonneg q1]; omega)
  rw [HT.out] at ok1
  have hpf : In64 pf := by unfold In64; omega
  generalize halfV ms pf = sl at *
  have l1 : sl ≤ 32767 := by have := HV.out; omega
  have l2 : 2 * ms ≤ sl := by have := HV.out; omega
  go_wp2_with fail
  refine (timeout_any B _ pf pf hpf ok0 _ h).mono ?_
  rintro e w4 ⟨rfl, hT, hc⟩
  rw [HT.out] at hT
  replace hB := below_chg hB hN h.lt hc
  clear hc h ok0
  have q3 : pf ≤ 65535 := by omega
  by_cases hmx : pf / 2 < 2 * ms
  · obtain rfl : sl = 2 * ms := by have := HV.out; omega
    go_wp2_with fail
    go_loopw [9, 10, 11] (fun a b c wr => ∃ (k : Nat) (v u : Int), k ≤ 90 ∧ c = .int .i64 k ∧ a = .int .i64 v ∧ b = .int .i64 u ∧ ms ≤ v ∧ v < (2 * ms) + ms ∧ 0 ≤ u ∧ u ≤ 65535 + 1024 * k ∧ Cng B ⟨ms, v, (2 * ms), false, 0⟩ wr ∧ Below w.heap.size w wr) (fun _ _ i _ => 90 - (intOf i).toNat)
    case atStart => exact ⟨0, ms, pf, by omega, rfl, rfl, rfl, by omega, by omega, by omega, by omega, hT, hB⟩
    case round =>
      obtain ⟨k, v, u, hk, rfl, rfl, rfl, v1, v2, u1, u2, hTk, hBk⟩ := hrel
      clear hT hB HV HT
      have okv : (⟨ms, v, (2 * ms), false, 0⟩ : Cg).Ok := ⟨s1, s2, by dsimp only; omega, by dsimp only; omega, by dsimp only; omega, by dsimp only; omega, by unfold In64; dsimp only; omega, fun _ => rfl⟩
      by_cases hvs : v < (2 * ms)
      · by_cases hlt : k < 90
        · have f3 : (k : Int) < 90 := by omega
          go_wp2_with fail
          refine (window_any B _ _ hTk).mono ?_
          rintro e w5 ⟨rfl, rfl⟩
          go_wp2_with fail
          refine (recovering_any B _ okv _ hTk).mono ?_
          rintro e w6 ⟨rfl, rfl⟩
          go_wp2_with fail
          refine (acked_any B _ ms (u + ms) okv _ hTk).mono ?_
          rintro e w7 ⟨rfl, hT2, hc⟩
          rw [ss_step s1 s2 (by omega) hvs] at hT2
          replace hBk := below_chg hBk hN hTk.lt hc
          clear hc hTk
          go_wp2_with fail
          go_roundw
          case rel => exact ⟨k + 1, v + ms, u + ms, by omega, by go_num, rfl, rfl, by omega, by omega, by omega, by omega, hT2, hBk⟩
          case measure => simp [intOf]; omega
        · obtain rfl : k = 90 := by omega
          go_wp2_with fail
          refine (window_any B _ _ hTk).mono ?_
          rintro e w5 ⟨rfl, rfl⟩
          go_wp2_with fail
          go_ret
          exact ⟨rfl, hBk⟩
      · obtain ⟨x, hx, x1, x2⟩ := ss_last s1 s2 (by omega) (by omega) (by omega) (u + ms) (m := ms) (v := v) (sl := (2 * ms))
        have HX := Lib.hid hx
        clear hx
        by_cases hlt : k < 90
        all_goals
          have f3 : (k : Int) ≤ 90 := by omega
          go_wp2_with fail
          refine (window_any B _ _ hTk).mono ?_
          rintro e w5 ⟨rfl, rfl⟩
          go_wp2_with fail
          refine (acked_any B _ ms (u + ms) okv _ hTk).mono ?_
          rintro e w7 ⟨rfl, hT2, hc⟩
          rw [HX.out] at hT2
          replace hBk := below_chg hBk hN hTk.lt hc
          clear hc hTk
          go_wp2_with fail
          refine (window_any B _ _ hT2).mono ?_
          rintro e w8 ⟨rfl, rfl⟩
          go_wp2_with fail
          refine (window_any B _ _ hT2).mono ?_
          rintro e w9 ⟨rfl, rfl⟩
          go_wp2_with fail
          go_ret
          exact ⟨rfl, hBk⟩
  · obtain rfl : sl = pf / 2 := by have := HV.out; omega
    go_wp2_with fail
    go_loopw [9, 10, 11] (fun a b c wr => ∃ (k : Nat) (v u : Int), k ≤ 90 ∧ c = .int .i64 k ∧ a = .int .i64 v ∧ b = .int .i64 u ∧ ms ≤ v ∧ v < (pf / 2) + ms ∧ 0 ≤ u ∧ u ≤ 65535 + 1024 * k ∧ Cng B ⟨ms, v, (pf / 2), false, 0⟩ wr ∧ Below w.heap.size w wr) (fun _ _ i _ => 90 - (intOf i).toNat)
    case atStart => exact ⟨0, ms, pf, by omega, rfl, rfl, rfl, by omega, by omega, by omega, by omega, hT, hB⟩
    case round =>
      obtain ⟨k, v, u, hk, rfl, rfl, rfl, v1, v2, u1, u2, hTk, hBk⟩ := hrel
      clear hT hB HV HT
      have okv : (⟨ms, v, (pf / 2), false, 0⟩ : Cg).Ok := ⟨s1, s2, by dsimp only; omega, by dsimp only; omega, by dsimp only; omega, by dsimp only; omega, by unfold In64; dsimp only; omega, fun _ => rfl⟩
      by_cases hvs : v < (pf / 2)
      · by_cases hlt : k < 90
        · have f3 : (k : Int) < 90 := by omega
          go_wp2_with fail
          refine (window_any B _ _ hTk).mono ?_
          rintro e w5 ⟨rfl, rfl⟩
          go_wp2_with fail
          refine (recovering_any B _ okv _ hTk).mono ?_
          rintro e w6 ⟨rfl, rfl⟩
          go_wp2_with fail
          refine (acked_any B _ ms (u + ms) okv _ hTk).mono ?_
          rintro e w7 ⟨rfl, hT2, hc⟩
          rw [ss_step s1 s2 (by omega) hvs] at hT2
          replace hBk := below_chg hBk hN hTk.lt hc
          clear hc hTk
          go_wp2_with fail
          go_roundw
          case rel => exact ⟨k + 1, v + ms, u + ms, by omega, by go_num, rfl, rfl, by omega, by omega, by omega, by omega, hT2, hBk⟩
          case measure => simp [intOf]; omega
        · obtain rfl : k = 90 := by omega
          go_wp2_with fail
          refine (window_any B _ _ hTk).mono ?_
          rintro e w5 ⟨rfl, rfl⟩
          go_wp2_with fail
          go_ret
          exact ⟨rfl, hBk⟩
      · obtain ⟨x, hx, x1, x2⟩ := ss_last s1 s2 (by omega) (by omega) (by omega) (u + ms) (m := ms) (v := v) (sl := (pf / 2))
        have HX := Lib.hid hx
        clear hx
        by_cases hlt : k < 90
        all_goals
          have f3 : (k : Int) ≤ 90 := by omega
          go_wp2_with fail
          refine (window_any B _ _ hTk).mono ?_
          rintro e w5 ⟨rfl, rfl⟩
          go_wp2_with fail
          refine (acked_any B _ ms (u + ms) okv _ hTk).mono ?_
          rintro e w7 ⟨rfl, hT2, hc⟩
          rw [HX.out] at hT2
          replace hBk := below_chg hBk hN hTk.lt hc
          clear hc hTk
          go_wp2_with fail
          refine (window_any B _ _ hT2).mono ?_
          rintro e w8 ⟨rfl, rfl⟩
          go_wp2_with fail
          refine (window_any B _ _ hT2).mono ?_
          rintro e w9 ⟨rfl, rfl⟩
          go_wp2_with fail
          go_ret
          exact ⟨rfl, hBk⟩
end Go.Proofs.YtnjfpkjfacopkaaDoor
