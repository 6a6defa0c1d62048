/- RTOTimeShift: its walk. -/
import Derived.Test.YtgbmkoodhmchoaaMref
namespace Go.Proofs.Ytgbmkoodhmchoaa
open Go.RowKit
/-- The calls as the law makes them, d ticks later. -/
def shC (d : Int) (cs : Nat → Cl) (i : Nat) : Cl := ⟨(cs i).kind, 5 * i + pickV (cs i).now 50 + d, pickV (cs i).n 9⟩
theorem shC_shift (d : Int) (cs : Nat → Cl) : ∀ k, Shift d (after (shC 0 cs) k) (after (shC d cs) k)
  | 0 => Shift.refl0 d
  | k + 1 => by
    have h := (shC_shift d cs k).call (cs k).kind (5 * k + pickV (cs k).now 50 + 0) (pickV (cs k).n 9)
    have e : (5 * (k : Int) + pickV (cs k).now 50 + 0 + d) = 5 * k + pickV (cs k).now 50 + d := by omega
    rw [e] at h
    exact h
theorem shC_ok (d : Int) (h1 : -1000000000 ≤ d) (h2 : d ≤ 1000000000) (cs : Nat → Cl) {i : Nat} (hi : i < 60) (h : (cs i).Okay) : (shC d cs i).Okay := by
  obtain ⟨a, b, c, e⟩ := h
  have p := pickV_bd (cs i).now 50 (by omega)
  have q := pickV_bd (cs i).n 9 (by omega)
  unfold shC
  refine ⟨a, b, ?_, ?_⟩ <;> unfold In64 <;> dsimp only <;> omega
theorem Chg.frozen {B : Nat} {w w' : World} (h : Chg B w w') {p : Addr} (hp : p.block < w.heap.size) (hne : p.block ≠ B) : w'.frozen? p = w.frozen? p := by
  unfold World.frozen?
  rw [h.block p.block hp hne]
set_option maxHeartbeats 6400000 in
theorem walk_RTOTimeShift (w : World) (a : Option Addr) (len cap : Nat) (cs : Nat → Cl) (hcs : IsCalls w a len cs) (by_ : Int) (hby : (Lit.int .i64 by_).wf = true) :
    Calls Try.prog 8 #[.slice a len cap, .int .i64 by_] w fun r w' => r = .returned (.bool true) ∧ Below w.heap.size w w' := by
  have hmax := hcs.1
  unfold maxLen at hmax
  obtain ⟨y1, y2⟩ := bounds_i64 hby
  have hpy := pickV_bd by_ 1000000000 (by omega)
  have hoks : ∀ i, i < len → (cs i).Okay := by
    intro i hi
    obtain ⟨b, off, _, _, hc⟩ := hcs.2 (by omega)
    exact (hc i hi).2.2.2
  have HF := Lib.hid (after_fit (shC 0 cs) (min len 60) (fun i hi => shC_ok 0 (by omega) (by omega) cs (by omega) (hoks i (by omega))))
  have HG := Lib.hid (after_fit (shC (pickV by_ 1000000000 - 500000000) cs) (min len 60) (fun i hi => shC_ok _ (by omega) (by omega) cs (by omega) (hoks i (by omega))))
  have HCS := Lib.hid hcs
  have HBY := Lib.hid (fun W => pick_any by_ 1000000000 W y1 y2 (by omega) (by omega))
  clear hcs hoks hby y1 y2
  go_enter Try.func8, Try.ntmps8
  go_wp2_with fail
  refine (examples_any _).mono ?_
  rintro e w1 ⟨rfl, hB⟩
  go_wp2_with fail
  refine (new_any _).mono ?_
  rintro e w2 ⟨rfl, hw⟩
  have ht := Tim.new_eq hw
  have hNt : w.heap.size ≤ w1.heap.size := hB.size
  replace hB := below_alloc_eq hB hNt hw
  clear hw
  generalize w1.heap.size = Bt at ht hNt ⊢
  go_wp2_with fail
  refine (new_any _).mono ?_
  rintro e w3 ⟨rfl, hw⟩
  have hu := Tim.new_eq hw
  have hNu : w.heap.size ≤ w2.heap.size := hB.size
  have hne : Bt ≠ w2.heap.size := by have := ht.lt; omega
  replace hB := below_alloc_eq hB hNu hw
  replace ht := ht.alloc_eq hw
  clear hw
  generalize w2.heap.size = Bu at hu hNu hne ⊢
  go_wp2_with fail
  refine (HBY.out _).mono ?_
  rintro r w4 ⟨rfl, rfl⟩
  generalize pickV by_ 1000000000 = py at *
  go_wp2_with fail
  obtain ⟨d, hd⟩ : ∃ d : Int, py - 500000000 = d := ⟨_, rfl⟩
  have d1 : -1000000000 ≤ d := by omega
  have d2 : d ≤ 1000000000 := by omega
  rw [hd] at HG ⊢
  clear hd HBY hpy
  go_loopw [9] (fun i wr => ∃ k : Nat, k ≤ len ∧ k ≤ 60 ∧ i = .int .i64 k ∧ Tim Bt (after (shC 0 cs) k) wr ∧ Tim Bu (after (shC d cs) k) wr ∧ Below w.heap.size w wr) (fun i _ => 60 - (intOf i).toNat)
  case atStart =>
    exact ⟨0, Nat.zero_le _, by omega, rfl, ht, hu, hB⟩
  case round =>
    obtain ⟨k, hk1, hk2, rfl, htk, huk, hBk⟩ := hrel
    clear ht hu hB
    by_cases hlt : k < len
    · by_cases hl1 : k < 60
      · obtain ⟨b, off, rfl, hbs, hc⟩ := HCS.out.2 (by omega)
        obtain ⟨d0, e1, e2, d3, d4, d5, d6⟩ := hc k hlt
        clear hc
        have hfk := HF.out k (by omega)
        have hfk1 := HF.out (k + 1) (by omega)
        have hgk := HG.out k (by omega)
        have hgk1 := HG.out (k + 1) (by omega)
        have HV := Lib.hid (shC_shift d cs (k + 1)).value
        have p1 := pickV_bd (cs k).now 50 (by omega)
        have p2 := pickV_bd (cs k).n 9 (by omega)
        have HA := Lib.hid (show after (shC 0 cs) (k + 1) = (after (shC 0 cs) k).call (cs k).kind (5 * k + pickV (cs k).now 50) (pickV (cs k).n 9) by
          show (after (shC 0 cs) k).call (cs k).kind (5 * k + pickV (cs k).now 50 + 0) (pickV (cs k).n 9) = _
          rw [Int.add_zero])
        have HU := Lib.hid (show after (shC d cs) (k + 1) = (after (shC d cs) k).call (cs k).kind (5 * k + pickV (cs k).now 50 + d) (pickV (cs k).n 9) from rfl)
        generalize after (shC 0 cs) k = t at *
        generalize after (shC d cs) k = u at *
        have g0 : wr.cell? ⟨b, off + k * 3, none⟩ = some (.int .u8 (cs k).kind) := (hBk.cell (p := ⟨b, _, none⟩) hbs).trans d0
        have g1 : wr.cell? ⟨b, off + k * 3 + 1, none⟩ = some (.int .i64 (cs k).now) := (hBk.cell (p := ⟨b, _, none⟩) hbs).trans e1
        have g2 : wr.cell? ⟨b, off + k * 3 + 2, none⟩ = some (.int .i64 (cs k).n) := (hBk.cell (p := ⟨b, _, none⟩) hbs).trans e2
        have f1 : (k : Int) < (len : Int) := by omega
        have f2 : (k : Int) < 60 := by omega
        clear HF HCS HG
        go_wp2_with fail
        have hCl0 : wr.heap.size = wr.heap.size := rfl
        obtain ⟨z0, z1, z2⟩ := box3 wr (.int .u8 (cs k).kind) (.int .i64 (cs k).now) (.int .i64 (cs k).n) 29
        have htW := htk.alloc (.cells #[.int .u8 (cs k).kind, .int .i64 (cs k).now, .int .i64 (cs k).n] 29)
        have huW := huk.alloc (.cells #[.int .u8 (cs k).kind, .int .i64 (cs k).now, .int .i64 (cs k).n] 29)
        have hBW := below_alloc_eq hBk hBk.size (Eq.refl (wr.alloc (.cells #[.int .u8 (cs k).kind, .int .i64 (cs k).now, .int .i64 (cs k).n] 29)))
        have hCl : wr.heap.size < (wr.alloc (.cells #[.int .u8 (cs k).kind, .int .i64 (cs k).now, .int .i64 (cs k).n] 29)).heap.size := by simp
        have hCt : wr.heap.size ≠ Bt := by have := htk.lt; omega
        have hCu : wr.heap.size ≠ Bu := by have := huk.lt; omega
        have hCN : w.heap.size ≤ wr.heap.size := hBk.size
        have fz : ∀ i, (wr.alloc (.cells #[.int .u8 (cs k).kind, .int .i64 (cs k).now, .int .i64 (cs k).n] 29)).frozen? ⟨wr.heap.size, i, none⟩ = false := fun i => frozen_of_row _ _ _ _ _ (heap_alloc_new _ _)
        have fz1 := fz 1
        have fz2 := fz 2
        clear hCl0 fz htk huk hBk g0 g1 g2
        generalize wr.alloc (.cells #[.int .u8 (cs k).kind, .int .i64 (cs k).now, .int .i64 (cs k).n] 29) = W0 at *
        generalize wr.heap.size = C at *
        refine (pick_any (cs k).now 50 _ d5.1 d5.2 (by omega) (by omega)).mono ?_
        rintro r w' ⟨rfl, rfl⟩
        generalize pickV (cs k).now 50 = q1 at *
        go_wp2_with fail
        refine (pick_any (cs k).n 9 _ d6.1 d6.2 (by omega) (by omega)).mono ?_
        rintro r w' ⟨rfl, rfl⟩
        generalize pickV (cs k).n 9 = q2 at *
        go_wp2_with fail
        have hcc := ((Chg.refl C W0).setCell 1 (.int .i64 (5 * (k : Int) + q1))).setCell 2 (.int .i64 q2)
        have y0 : ((W0.setCell ⟨C, 1, none⟩ (.int .i64 (5 * (k : Int) + q1))).setCell ⟨C, 2, none⟩ (.int .i64 q2)).cell? ⟨C, 0, none⟩ = some (.int .u8 (cs k).kind) := by
          rw [World.cell?_setCell_other _ _ _ _ (by simp), World.cell?_setCell_other _ _ _ _ (by simp)]; exact z0
        have y1 : ((W0.setCell ⟨C, 1, none⟩ (.int .i64 (5 * (k : Int) + q1))).setCell ⟨C, 2, none⟩ (.int .i64 q2)).cell? ⟨C, 1, none⟩ = some (.int .i64 (5 * (k : Int) + q1)) := by
          rw [World.cell?_setCell_other _ _ _ _ (by simp)]; exact World.cell?_setCell_same _ _ _ z1
        have y2 : ((W0.setCell ⟨C, 1, none⟩ (.int .i64 (5 * (k : Int) + q1))).setCell ⟨C, 2, none⟩ (.int .i64 q2)).cell? ⟨C, 2, none⟩ = some (.int .i64 q2) := by
          exact World.cell?_setCell_same _ _ _ (by rw [World.cell?_setCell_other _ _ _ _ (by simp)]; exact z2)
        have fy : ((W0.setCell ⟨C, 1, none⟩ (.int .i64 (5 * (k : Int) + q1))).setCell ⟨C, 2, none⟩ (.int .i64 q2)).frozen? ⟨C, 1, none⟩ = false := by
          rw [World.frozen?_setCell, World.frozen?_setCell]; exact fz1
        replace htW := htW.other hcc hCt.symm
        replace huW := huW.other hcc hCu.symm
        replace hBW := below_chg hBW hCN hCl hcc
        replace hCl := hcc.lt hCl
        generalize (W0.setCell ⟨C, 1, none⟩ (.int .i64 (5 * (k : Int) + q1))).setCell ⟨C, 2, none⟩ (.int .i64 q2) = W1 at *
        clear z0 z1 z2 hcc fz1 fz2
        refine (do_any Bt t (cs k).kind (5 * (k : Int) + q1) q2 d3 d4 (by unfold In64; omega) hfk _ htW).mono ?_
        rintro e w4 ⟨rfl, hT, hc⟩
        rw [← HA.out] at hT
        replace hBW := below_chg hBW hNt htW.lt hc
        replace huW := huW.other hc hne.symm
        have x0 : w4.cell? ⟨C, 0, none⟩ = some (.int .u8 (cs k).kind) := (hc.cell (p := ⟨C, 0, none⟩) hCl hCt).trans y0
        have x1 : w4.cell? ⟨C, 1, none⟩ = some (.int .i64 (5 * (k : Int) + q1)) := (hc.cell (p := ⟨C, 1, none⟩) hCl hCt).trans y1
        have x2 : w4.cell? ⟨C, 2, none⟩ = some (.int .i64 q2) := (hc.cell (p := ⟨C, 2, none⟩) hCl hCt).trans y2
        have fx : w4.frozen? ⟨C, 1, none⟩ = false := (hc.frozen (p := ⟨C, 1, none⟩) hCl hCt).trans fy
        replace hCl := hc.lt hCl
        clear hc htW y0 y1 y2 fy
        go_wp2_with fail
        have hcc := (Chg.refl C w4).setCell 1 (.int .i64 (5 * (k : Int) + q1 + d))
        replace hT := hT.other hcc hCt.symm
        replace huW := huW.other hcc hCu.symm
        replace hBW := below_chg hBW hCN hCl hcc
        clear hcc x0 x1 x2 fx
        refine (do_any Bu u (cs k).kind (5 * (k : Int) + q1 + d) q2 d3 d4 (by unfold In64; omega) hgk _ huW).mono ?_
        rintro e w5 ⟨rfl, hU, hc⟩
        rw [← HU.out] at hU
        replace hBW := below_chg hBW hNu huW.lt hc
        replace hT := hT.other hc hne
        clear hc huW
        go_wp2_with fail
        refine (value_any Bt _ hfk1.1 _ hT).mono ?_
        rintro e w6 ⟨rfl, hbw⟩
        replace hBW := below_val hBW hBW.size hbw
        replace hT := hT.below hbw
        replace hU := hU.below hbw
        clear hbw
        go_wp2_with fail
        refine (value_any Bu _ hgk1.1 _ hU).mono ?_
        rintro e w7 ⟨rfl, hbw⟩
        replace hBW := below_val hBW hBW.size hbw
        replace hT := hT.below hbw
        replace hU := hU.below hbw
        clear hbw
        rw [HV.out]
        go_wp2_with fail
        go_roundw
        case rel => exact ⟨k + 1, by omega, by omega, by go_num, hT, hU, hBW⟩
        case measure => simp [intOf]; omega
      · obtain rfl : k = 60 := by omega
        go_wp2_with fail
        go_ret
        exact ⟨rfl, hBk⟩
    · obtain rfl : k = len := by omega
      go_wp2_with fail
      go_ret
      exact ⟨rfl, hBk⟩
end Go.Proofs.Ytgbmkoodhmchoaa
