/- Acked. -/
import Derived.Test.YtnjfpkjfacopkaaDoorCgFns
namespace Go.Proofs.YtnjfpkjfacopkaaDoor
open Go.RowKit
theorem Chg.cell {B : Nat} {w w' : World} (h : Chg B w w') {p : Addr} (hp : p.block < w.heap.size) (hne : p.block ≠ B) : w'.cell? p = w.cell? p := World.cell?_of_block (h.block p.block hp hne)
set_option maxHeartbeats 1600000 in
theorem leave_any (B C : Nat) (c : Cg) (w : World) (h : Cng B c w) (hc : w.cell? ⟨C, 0, none⟩ = some (.pointer (some ⟨B, 0, none⟩))) :
    Calls Tryd.prog 29 #[.pointer (some ⟨C, 0, none⟩)] w fun e w' => e = .returned (.tuple #[]) ∧ Cng B { c with on := false, pt := 0, win := c.thr } w' ∧ Chg B w w' := by
  obtain ⟨c0, c1, c2, c3, c4, c5, c6⟩ := h.cells
  have g1 := h.free 1
  have g3 := h.free 3
  have g4 := h.free 4
  clear c5 c6 c0
  go_enter Tryd.func29, Tryd.ntmps29
  go_wp2_with fail
  have HT := Lib.hid ((h.set 3 (.bool false) { c with on := false } rfl).set 4 (.int .i64 0) { c with on := false, pt := 0 } rfl)
  have HC := Lib.hid (((Chg.refl B w).setCell 3 (.bool false)).setCell 4 (.int .i64 0))
  have hc' : ((w.setCell ⟨B, 3, none⟩ (.bool false)).setCell ⟨B, 4, none⟩ (.int .i64 0)).cell? ⟨C, 0, none⟩ = some (.pointer (some ⟨B, 0, none⟩)) := by
    rw [World.cell?_setCell_other _ _ _ _ (by simp), World.cell?_setCell_other _ _ _ _ (by simp)]; exact hc
  generalize (w.setCell ⟨B, 3, none⟩ (.bool false)).setCell ⟨B, 4, none⟩ (.int .i64 0) = W1 at *
  clear c1 c2 c3 c4 g1 g3 g4 hc
  obtain ⟨c0, c1, c2, c3, c4, c5, c6⟩ := HT.out.cells
  have g1 := HT.out.free 1
  clear c5 c6 c0 c3 c4
  replace c1 : W1.cell? ⟨B, 1, none⟩ = some (.int .i64 c.win) := c1
  replace c2 : W1.cell? ⟨B, 2, none⟩ = some (.int .i64 c.thr) := c2
  go_region
  all_goals
    go_wp2_with fail
    go_end0
    exact ⟨rfl, (HT.out.drew).set 1 _ _ rfl, (HC.out.drew).setCell _ _⟩
set_option maxHeartbeats 1600000 in
theorem acked_any (B : Nat) (c : Cg) (n una : Int) (hok : c.Ok) (w : World) (h : Cng B c w) :
    Calls Tryd.prog 15 #[.pointer (some ⟨B, 0, none⟩), .int .i64 n, .int .i64 una] w fun e w' => e = .returned (.tuple #[]) ∧ Cng B (c.acked n una) w' ∧ Chg B w w' := by
  go_enter Tryd.func15, Tryd.ntmps15
  go_wp2_with fail
  have hne : B ≠ w.heap.size := by have := h.lt; omega
  replace h := h.alloc (.cells #[.pointer (some ⟨B, 0, none⟩)] 25)
  have hC := (Chg.refl B w).alloc (.cells #[.pointer (some ⟨B, 0, none⟩)] 25)
  have hbox : (w.alloc (.cells #[.pointer (some ⟨B, 0, none⟩)] 25)).cell? ⟨w.heap.size, 0, none⟩ = some (.pointer (some ⟨B, 0, none⟩)) := by rw [cell_of_row _ _ _ _ _ _ (heap_alloc_new _ _)]; rfl
  have hCl : w.heap.size < (w.alloc (.cells #[.pointer (some ⟨B, 0, none⟩)] 25)).heap.size := by simp
  generalize w.alloc (.cells #[.pointer (some ⟨B, 0, none⟩)] 25) = W at *
  generalize w.heap.size = C at *
  refine (made_any B c _ h).mono ?_
  rintro e w1 ⟨rfl, rfl⟩
  go_wp2_with fail
  refine (recovers_any B c hok _ h).mono ?_
  rintro e w1 ⟨rfl, rfl⟩
  obtain ⟨c0, c1, c2, c3, c4, c5, c6⟩ := h.cells
  clear c0 c3
  have hok' := hok
  by_cases ho : c.on = true
  · rw [ho]
    by_cases hp : c.pt ≤ una
    · have HM := Lib.hid (show c.acked n una = { c with on := false, pt := 0, win := c.thr } by unfold Cg.acked; rw [if_pos ho, if_pos hp])
      clear ho
      go_wp2_with fail
      refine (leave_any B C c _ h hbox).mono ?_
      rintro e w2 ⟨rfl, hT, hc⟩
      go_wp2_with fail
      exact bodyPost_ret (results_none rfl _ _ _) rfl ⟨rfl, by rw [HM.out]; exact hT, hC.trans hc⟩
    · have HM := Lib.hid (show c.acked n una = c by unfold Cg.acked; rw [if_pos ho, if_neg hp])
      clear ho
      go_wp2_with fail
      exact bodyPost_ret (results_none rfl _ _ _) rfl ⟨rfl, by rw [HM.out]; exact h, hC⟩
  · have ho' : c.on = false := by simpa using ho
    rw [ho']
    by_cases hn : n ≤ 0
    · have HM := Lib.hid (show c.acked n una = c by unfold Cg.acked; rw [if_neg ho, if_pos hn])
      clear ho ho'
      go_wp2_with fail
      exact bodyPost_ret (results_none rfl _ _ _) rfl ⟨rfl, by rw [HM.out]; exact h, hC⟩
    · by_cases hw : c.win < c.thr
      · have HM := Lib.hid (show c.acked n una = { c with win := min (c.win + min n c.mss) 65535 } by unfold Cg.acked; rw [if_neg ho, if_neg hn, if_pos hw])
        clear ho ho'
        go_wp2_with fail
        go_quiet (fail)
        go_wp2_with fail
        have h2 := h.drewN nq
        replace hC := hC.drewN nq
        have hbox2 : (W.drewN nq).cell? ⟨C, 0, none⟩ = some (.pointer (some ⟨B, 0, none⟩)) := hbox
        have hCl2 : C < (W.drewN nq).heap.size := hCl
        clear h hbox hCl c1 c2 c4 c5 c6
        generalize W.drewN nq = W2 at *
        have h3 := h2.drew
        obtain ⟨k1, k2, k3, k4, -⟩ := hok
        have q1 : 0 ≤ min n c.mss := by omega
        have q2 : min n c.mss ≤ 10000000 := by omega
        have HOK := Lib.hid hok'
        go_region_held3 (fun w' => w'.cell? ⟨C, 0, none⟩ = some (.pointer (some ⟨B, 0, none⟩))) (first | exact hq2 | go_keep) (first | (go_at_call 24; refine (slow_any B c n _ h3).mono ?_; rintro e w3 ⟨rfl, rfl⟩) | (go_at_call 30; refine (widen_any B c (min n c.mss) q1 q2 HOK.out _ h3).mono ?_; rintro e w4 ⟨rfl, hT, hc⟩; have hq2 := (hc.cell (p := ⟨C, 0, none⟩) hCl2 hne.symm).trans hbox2))
        all_goals
          go_wp2_with fail
          go_end0
          exact ⟨rfl, by rw [HM.out]; exact hT, hC.drew.trans hc⟩
      · have HM := Lib.hid (show c.acked n una = { c with win := min (c.win + avoidV c.mss c.win) 65535 } by unfold Cg.acked; rw [if_neg ho, if_neg hn, if_neg hw])
        clear ho ho'
        go_wp2_with fail
        go_quiet (fail)
        go_wp2_with fail
        have h2 := h.drewN nq
        replace hC := hC.drewN nq
        have hbox2 : (W.drewN nq).cell? ⟨C, 0, none⟩ = some (.pointer (some ⟨B, 0, none⟩)) := hbox
        have hCl2 : C < (W.drewN nq).heap.size := hCl
        clear h hbox hCl c1 c2 c4 c5 c6
        generalize W.drewN nq = W2 at *
        have h3 := h2.drew
        obtain ⟨k1, k2, k3, k4, -⟩ := hok
        obtain ⟨q1, q2, -⟩ := avoidV_bd k1 k2 k3
        have HOK := Lib.hid hok'
        go_region_held3 (fun w' => w'.cell? ⟨C, 0, none⟩ = some (.pointer (some ⟨B, 0, none⟩))) (first | exact hq2 | exact hq | go_keep) (first | (go_at_call 25; refine (avoid_any B c n HOK.out _ h3).mono ?_; rintro e w3 ⟨rfl, hb⟩; have h4 := h3.below hb; have hq := (hb.cell (p := ⟨C, 0, none⟩) hCl2).trans hbox2) | (go_at_call 30; refine (widen_any B c (avoidV c.mss c.win) (by omega) (by omega) HOK.out _ h4).mono ?_; rintro e w4 ⟨rfl, hT, hc⟩; have hq2 := (hc.cell (p := ⟨C, 0, none⟩) (Nat.lt_of_lt_of_le hCl2 hb.size) hne.symm).trans hq))
        all_goals
          go_wp2_with fail
          go_end0
          exact ⟨rfl, by rw [HM.out]; exact hT, (hC.drew.trans (Chg.of_below hb)).trans hc⟩
end Go.Proofs.YtnjfpkjfacopkaaDoor
