/- RTOMatchesReference: its walk. -/
import Derived.Test.YtgbmkoodhmchoaaBnd
namespace Go.Proofs.Ytgbmkoodhmchoaa
open Go.RowKit
/-- The calls as the law makes them. -/
def nearC (near : Bool) (cs : Nat → Cl) (i : Nat) : Cl := if near then ⟨(cs i).kind, 3 * i + pickV (cs i).now 40, pickV (cs i).n 6⟩ else cs i
/-- The reference's timer after i calls. -/
def rafter (cs : Nat → Cl) : Nat → Tm
  | 0 => tm0
  | i + 1 => (rafter cs i).rcall (cs i).kind (cs i).now (cs i).n
theorem rafter_backs (cs : Nat → Cl) : ∀ k, 0 ≤ (rafter cs k).backs ∧ (rafter cs k).backs ≤ k
  | 0 => by unfold rafter tm0; decide
  | k + 1 => by
    obtain ⟨a, b⟩ := rafter_backs cs k
    obtain ⟨c, d⟩ := Tm.rcall_backs (rafter cs k) (cs k).kind (cs k).now (cs k).n a
    refine ⟨c, ?_⟩
    show ((rafter cs k).rcall (cs k).kind (cs k).now (cs k).n).backs ≤ ((k + 1 : Nat) : Int)
    omega
theorem rafter_cut (cs : Nat → Cl) : ∀ k, (rafter cs k).cut = after cs k
  | 0 => rfl
  | k + 1 => by
    show ((rafter cs k).rcall (cs k).kind (cs k).now (cs k).n).cut = (after cs k).call (cs k).kind (cs k).now (cs k).n
    rw [Tm.cut_call _ _ _ _ (rafter_backs cs k).1, rafter_cut cs k]
theorem nearC_ok (near : Bool) (cs : Nat → Cl) {i : Nat} (hi : i < 100) (h : (cs i).Okay) : (nearC near cs i).Okay := by
  unfold nearC
  split
  · obtain ⟨a, b, c, d⟩ := h
    have p := pickV_bd (cs i).now 40 (by omega)
    have q := pickV_bd (cs i).n 6 (by omega)
    refine ⟨a, b, ?_, ?_⟩ <;> unfold In64 <;> dsimp only <;> omega
  · exact h
theorem Chg.cell {B : Nat} {w w' : World} (h : Chg B w w') {p : Addr} (hp : p.block < w.heap.size) (hne : p.block ≠ B) : w'.cell? p = w.cell? p := World.cell?_of_block (h.block p.block hp hne)
theorem box3 (w : World) (x y z : Value) (t : TypeId) : (w.alloc (.cells #[x, y, z] t)).cell? ⟨w.heap.size, 0, none⟩ = some x ∧ (w.alloc (.cells #[x, y, z] t)).cell? ⟨w.heap.size, 1, none⟩ = some y ∧ (w.alloc (.cells #[x, y, z] t)).cell? ⟨w.heap.size, 2, none⟩ = some z := by
  refine ⟨?_, ?_, ?_⟩ <;> (rw [cell_of_row _ _ _ _ _ _ (heap_alloc_new _ _)]; rfl)
set_option maxHeartbeats 6400000 in
theorem walk_RTOMatchesReference (w : World) (a : Option Addr) (len cap : Nat) (cs : Nat → Cl) (hcs : IsCalls w a len cs) (near : Bool) :
    Calls Try.prog 3 #[.slice a len cap, .bool near] w fun r w' => r = .returned (.bool true) ∧ Below w.heap.size w w' := by
  have hmax := hcs.1
  unfold maxLen at hmax
  have hoks : ∀ i, i < len → (cs i).Okay := by
    intro i hi
    obtain ⟨b, off, _, _, hc⟩ := hcs.2 (by omega)
    exact (hc i hi).2.2.2
  have HF := Lib.hid (after_fit (nearC near cs) (min len 100) (fun i hi => nearC_ok near cs (by omega) (hoks i (by omega))))
  have HOK := Lib.hid hoks
  have HCS := Lib.hid hcs
  clear hcs hoks
  go_enter Try.func3, Try.ntmps3
  go_wp2_with fail
  refine (examples_any _).mono ?_
  rintro e w1 ⟨rfl, hB⟩
  go_wp2_with fail
  refine (new_any _).mono ?_
  rintro e w2 ⟨rfl, hw⟩
  have ht := Tim.new_eq hw
  have hNt : w.heap.size ≤ w1.heap.size := hB.size
  replace hB := below_alloc_eq hB hNt hw
  clear hw
  generalize w1.heap.size = Bt at ht hNt ⊢
  go_wp2_with fail
  refine (rnew_any _).mono ?_
  rintro e w3 ⟨rfl, hw⟩
  have hu := Rim.new_eq hw
  have hNu : w.heap.size ≤ w2.heap.size := hB.size
  have hne : Bt ≠ w2.heap.size := by have := ht.lt; omega
  replace hB := below_alloc_eq hB hNu hw
  replace ht := ht.alloc_eq hw
  clear hw
  generalize w2.heap.size = Bu at hu hNu hne ⊢
  go_wp2_with fail
  go_loopw [8] (fun i wr => ∃ k : Nat, k ≤ len ∧ k ≤ 100 ∧ i = .int .i64 k ∧ Tim Bt (after (nearC near cs) k) wr ∧ Rim Bu (rafter (nearC near cs) k) wr ∧ Below w.heap.size w wr) (fun i _ => 100 - (intOf i).toNat)
  case atStart =>
    exact ⟨0, Nat.zero_le _, by omega, rfl, ht, hu, hB⟩
  case round =>
    obtain ⟨k, hk1, hk2, rfl, htk, huk, hBk⟩ := hrel
    clear ht hu hB
    by_cases hlt : k < len
    · by_cases hl1 : k < 100
      · obtain ⟨b, off, rfl, hbs, hc⟩ := HCS.out.2 (by omega)
        obtain ⟨d0, d1, d2, d3, d4, d5, d6⟩ := hc k hlt
        clear hc
        have hfk := HF.out k (by omega)
        have hfk1 := HF.out (k + 1) (by omega)
        obtain ⟨r1, r2⟩ := rafter_backs (nearC near cs) k
        obtain ⟨r3, r4⟩ := rafter_backs (nearC near cs) (k + 1)
        have HR := Lib.hid (rafter_cut (nearC near cs) k)
        have HR1 := Lib.hid (rafter_cut (nearC near cs) (k + 1))
        have HA := Lib.hid (show after (nearC near cs) (k + 1) = (after (nearC near cs) k).call (nearC near cs k).kind (nearC near cs k).now (nearC near cs k).n from rfl)
        have HU := Lib.hid (show rafter (nearC near cs) (k + 1) = (rafter (nearC near cs) k).rcall (nearC near cs k).kind (nearC near cs k).now (nearC near cs k).n from rfl)
        generalize after (nearC near cs) k = t at *
        generalize rafter (nearC near cs) k = u at *
        have g0 : wr.cell? ⟨b, off + k * 3, none⟩ = some (.int .u8 (cs k).kind) := (hBk.cell (p := ⟨b, _, none⟩) hbs).trans d0
        have g1 : wr.cell? ⟨b, off + k * 3 + 1, none⟩ = some (.int .i64 (cs k).now) := (hBk.cell (p := ⟨b, _, none⟩) hbs).trans d1
        have g2 : wr.cell? ⟨b, off + k * 3 + 2, none⟩ = some (.int .i64 (cs k).n) := (hBk.cell (p := ⟨b, _, none⟩) hbs).trans d2
        have f1 : (k : Int) < (len : Int) := by omega
        have f2 : (k : Int) < 100 := by omega
        cases near with
        | false =>
          have HN := Lib.hid (show nearC false cs k = cs k from rfl)
          rw [HN.out] at HA HU
          clear HF HCS
          go_wp2_with fail
          have hCl0 : wr.heap.size = wr.heap.size := rfl
          obtain ⟨z0, z1, z2⟩ := box3 wr (.int .u8 (cs k).kind) (.int .i64 (cs k).now) (.int .i64 (cs k).n) 29
          have htW := htk.alloc (.cells #[.int .u8 (cs k).kind, .int .i64 (cs k).now, .int .i64 (cs k).n] 29)
          have huW := huk.alloc (.cells #[.int .u8 (cs k).kind, .int .i64 (cs k).now, .int .i64 (cs k).n] 29)
          have hBW := below_alloc_eq hBk hBk.size (Eq.refl (wr.alloc (.cells #[.int .u8 (cs k).kind, .int .i64 (cs k).now, .int .i64 (cs k).n] 29)))
          have hCl : wr.heap.size < (wr.alloc (.cells #[.int .u8 (cs k).kind, .int .i64 (cs k).now, .int .i64 (cs k).n] 29)).heap.size := by simp
          have hCt : wr.heap.size ≠ Bt := by have := htk.lt; omega
          have hCu : wr.heap.size ≠ Bu := by have := huk.lt; omega
          have hCN : w.heap.size ≤ wr.heap.size := hBk.size
          have fz : ∀ i, (wr.alloc (.cells #[.int .u8 (cs k).kind, .int .i64 (cs k).now, .int .i64 (cs k).n] 29)).frozen? ⟨wr.heap.size, i, none⟩ = false := fun i => frozen_of_row _ _ _ _ _ (heap_alloc_new _ _)
          have fz1 := fz 1
          have fz2 := fz 2
          clear hCl0 fz htk huk hBk g0 g1 g2
          generalize wr.alloc (.cells #[.int .u8 (cs k).kind, .int .i64 (cs k).now, .int .i64 (cs k).n] 29) = W0 at *
          generalize wr.heap.size = C at *
          refine (do_any Bt t (cs k).kind (cs k).now (cs k).n d3 d4 d5 hfk _ htW).mono ?_
          rintro e w4 ⟨rfl, hT, hc⟩
          rw [← HA.out] at hT
          replace hBW := below_chg hBW hNt htW.lt hc
          replace huW := huW.other hc hne.symm
          have x0 : w4.cell? ⟨C, 0, none⟩ = some (.int .u8 (cs k).kind) := (hc.cell (p := ⟨C, 0, none⟩) hCl hCt).trans z0
          have x1 : w4.cell? ⟨C, 1, none⟩ = some (.int .i64 (cs k).now) := (hc.cell (p := ⟨C, 1, none⟩) hCl hCt).trans z1
          have x2 : w4.cell? ⟨C, 2, none⟩ = some (.int .i64 (cs k).n) := (hc.cell (p := ⟨C, 2, none⟩) hCl hCt).trans z2
          clear hc htW z0 z1 z2
          go_wp2_with fail
          refine (did_any Bu u (cs k).kind (cs k).now (cs k).n d3 d4 d5 (by rw [HR.out]; exact hfk) r1 (by omega) _ huW).mono ?_
          rintro e w5 ⟨rfl, hU, hc⟩
          rw [← HU.out] at hU
          replace hBW := below_chg hBW hNu huW.lt hc
          replace hT := hT.other hc hne
          clear hc huW x0 x1 x2
          go_wp2_with fail
          refine (value_any Bt _ hfk1.1 _ hT).mono ?_
          rintro e w6 ⟨rfl, hbw⟩
          replace hBW := below_val hBW hBW.size hbw
          replace hT := hT.below hbw
          replace hU := hU.below hbw
          clear hbw
          go_wp2_with fail
          refine (rvalue_any Bu _ (by rw [HR1.out]; exact hfk1.1) r3 (by omega) _ hU).mono ?_
          rintro e w7 ⟨rfl, hbw⟩
          replace hBW := below_val hBW hBW.size hbw
          replace hT := hT.below hbw
          replace hU := hU.below hbw
          clear hbw
          rw [HR1.out]
          go_wp2_with fail
          go_roundw
          case rel => exact ⟨k + 1, by omega, by omega, by go_num, hT, hU, hBW⟩
          case measure => simp [intOf]; omega
        | true =>
          have HN := Lib.hid (show nearC true cs k = ⟨(cs k).kind, 3 * k + pickV (cs k).now 40, pickV (cs k).n 6⟩ from rfl)
          rw [HN.out] at HA HU
          clear HF HCS
          go_wp2_with fail
          have hCl0 : wr.heap.size = wr.heap.size := rfl
          obtain ⟨z0, z1, z2⟩ := box3 wr (.int .u8 (cs k).kind) (.int .i64 (cs k).now) (.int .i64 (cs k).n) 29
          have htW := htk.alloc (.cells #[.int .u8 (cs k).kind, .int .i64 (cs k).now, .int .i64 (cs k).n] 29)
          have huW := huk.alloc (.cells #[.int .u8 (cs k).kind, .int .i64 (cs k).now, .int .i64 (cs k).n] 29)
          have hBW := below_alloc_eq hBk hBk.size (Eq.refl (wr.alloc (.cells #[.int .u8 (cs k).kind, .int .i64 (cs k).now, .int .i64 (cs k).n] 29)))
          have hCl : wr.heap.size < (wr.alloc (.cells #[.int .u8 (cs k).kind, .int .i64 (cs k).now, .int .i64 (cs k).n] 29)).heap.size := by simp
          have hCt : wr.heap.size ≠ Bt := by have := htk.lt; omega
          have hCu : wr.heap.size ≠ Bu := by have := huk.lt; omega
          have hCN : w.heap.size ≤ wr.heap.size := hBk.size
          have fz : ∀ i, (wr.alloc (.cells #[.int .u8 (cs k).kind, .int .i64 (cs k).now, .int .i64 (cs k).n] 29)).frozen? ⟨wr.heap.size, i, none⟩ = false := fun i => frozen_of_row _ _ _ _ _ (heap_alloc_new _ _)
          have fz1 := fz 1
          have fz2 := fz 2
          clear hCl0 fz htk huk hBk g0 g1 g2
          generalize wr.alloc (.cells #[.int .u8 (cs k).kind, .int .i64 (cs k).now, .int .i64 (cs k).n] 29) = W0 at *
          generalize wr.heap.size = C at *
          have p1 := pickV_bd (cs k).now 40 (by omega)
          have p2 := pickV_bd (cs k).n 6 (by omega)
          refine (pick_any (cs k).now 40 _ d5.1 d5.2 (by omega) (by omega)).mono ?_
          rintro r w' ⟨rfl, rfl⟩
          generalize pickV (cs k).now 40 = q1 at *
          go_wp2_with fail
          refine (pick_any (cs k).n 6 _ d6.1 d6.2 (by omega) (by omega)).mono ?_
          rintro r w' ⟨rfl, rfl⟩
          generalize pickV (cs k).n 6 = q2 at *
          go_wp2_with fail
          have hcc := ((Chg.refl C W0).setCell 1 (.int .i64 (3 * (k : Int) + q1))).setCell 2 (.int .i64 q2)
          have y0 : ((W0.setCell ⟨C, 1, none⟩ (.int .i64 (3 * (k : Int) + q1))).setCell ⟨C, 2, none⟩ (.int .i64 q2)).cell? ⟨C, 0, none⟩ = some (.int .u8 (cs k).kind) := by
            rw [World.cell?_setCell_other _ _ _ _ (by simp), World.cell?_setCell_other _ _ _ _ (by simp)]; exact z0
          have y1 : ((W0.setCell ⟨C, 1, none⟩ (.int .i64 (3 * (k : Int) + q1))).setCell ⟨C, 2, none⟩ (.int .i64 q2)).cell? ⟨C, 1, none⟩ = some (.int .i64 (3 * (k : Int) + q1)) := by
            rw [World.cell?_setCell_other _ _ _ _ (by simp)]; exact World.cell?_setCell_same _ _ _ z1
          have y2 : ((W0.setCell ⟨C, 1, none⟩ (.int .i64 (3 * (k : Int) + q1))).setCell ⟨C, 2, none⟩ (.int .i64 q2)).cell? ⟨C, 2, none⟩ = some (.int .i64 q2) := by
            exact World.cell?_setCell_same _ _ _ (by rw [World.cell?_setCell_other _ _ _ _ (by simp)]; exact z2)
          replace htW := htW.other hcc hCt.symm
          replace huW := huW.other hcc hCu.symm
          replace hBW := below_chg hBW hCN hCl hcc
          replace hCl := hcc.lt hCl
          generalize (W0.setCell ⟨C, 1, none⟩ (.int .i64 (3 * (k : Int) + q1))).setCell ⟨C, 2, none⟩ (.int .i64 q2) = W1 at *
          clear z0 z1 z2 hcc fz1 fz2
          have z0 := y0
          have z1 := y1
          have z2 := y2
          clear y0 y1 y2
          refine (do_any Bt t (cs k).kind (3 * (k : Int) + q1) q2 d3 d4 (by unfold In64; omega) hfk _ htW).mono ?_
          rintro e w4 ⟨rfl, hT, hc⟩
          rw [← HA.out] at hT
          replace hBW := below_chg hBW hNt htW.lt hc
          replace huW := huW.other hc hne.symm
          have x0 : w4.cell? ⟨C, 0, none⟩ = some (.int .u8 (cs k).kind) := (hc.cell (p := ⟨C, 0, none⟩) hCl hCt).trans z0
          have x1 : w4.cell? ⟨C, 1, none⟩ = some (.int .i64 (3 * (k : Int) + q1)) := (hc.cell (p := ⟨C, 1, none⟩) hCl hCt).trans z1
          have x2 : w4.cell? ⟨C, 2, none⟩ = some (.int .i64 q2) := (hc.cell (p := ⟨C, 2, none⟩) hCl hCt).trans z2
          clear hc htW z0 z1 z2
          go_wp2_with fail
          refine (did_any Bu u (cs k).kind (3 * (k : Int) + q1) q2 d3 d4 (by unfold In64; omega) (by rw [HR.out]; exact hfk) r1 (by omega) _ huW).mono ?_
          rintro e w5 ⟨rfl, hU, hc⟩
          rw [← HU.out] at hU
          replace hBW := below_chg hBW hNu huW.lt hc
          replace hT := hT.other hc hne
          clear hc huW x0 x1 x2
          go_wp2_with fail
          refine (value_any Bt _ hfk1.1 _ hT).mono ?_
          rintro e w6 ⟨rfl, hbw⟩
          replace hBW := below_val hBW hBW.size hbw
          replace hT := hT.below hbw
          replace hU := hU.below hbw
          clear hbw
          go_wp2_with fail
          refine (rvalue_any Bu _ (by rw [HR1.out]; exact hfk1.1) r3 (by omega) _ hU).mono ?_
          rintro e w7 ⟨rfl, hbw⟩
          replace hBW := below_val hBW hBW.size hbw
          replace hT := hT.below hbw
          replace hU := hU.below hbw
          clear hbw
          rw [HR1.out]
          go_wp2_with fail
          go_roundw
          case rel => exact ⟨k + 1, by omega, by omega, by go_num, hT, hU, hBW⟩
          case measure => simp [intOf]; omega
      · obtain rfl : k = 100 := by omega
        go_wp2_with fail
        go_ret
        exact ⟨rfl, hBk⟩
    · obtain rfl : k = len := by omega
      go_wp2_with fail
      go_ret
      exact ⟨rfl, hBk⟩
end Go.Proofs.Ytgbmkoodhmchoaa
