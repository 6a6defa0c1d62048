/- RTOBounded: its walk. -/
import Derived.Test.YtgbmkoodhmchoaaCallDo
import Derived.Test.YtgbmkoodhmchoaaRtoKarn
import Derived.Outline
namespace Go.Proofs.Ytgbmkoodhmchoaa
open Go.RowKit
/-- The timer after i calls. -/
def after (cs : Nat → Cl) : Nat → Tm
  | 0 => tm0
  | i + 1 => (after cs i).call (cs i).kind (cs i).now (cs i).n
theorem after_fit (cs : Nat → Cl) (len : Nat) (h : ∀ i, i < len → (cs i).Okay) : ∀ k, k ≤ len → (after cs k).Fit
  | 0, _ => tm0_fit
  | k + 1, hk => Tm.call_fit (after_fit cs len h k (by omega)) _ _ (h k (by omega)).2.2.1
set_option maxHeartbeats 6400000 in
theorem walk_RTOBounded (w : World) (a : Option Addr) (len cap : Nat) (cs : Nat → Cl) (hcs : IsCalls w a len cs) :
    Calls Try.prog 4 #[.slice a len cap] w fun r w' => r = .returned (.bool true) ∧ Below w.heap.size w w' := by
  have hmax := hcs.1
  unfold maxLen at hmax
  have hoks : ∀ i, i < len → (cs i).Okay := by
    intro i hi
    obtain ⟨b, off, _, _, hc⟩ := hcs.2 (by omega)
    exact (hc i hi).2.2.2
  have HF := Lib.hid (after_fit cs len hoks)
  have HCS := Lib.hid hcs
  clear hcs hoks
  go_enter Try.func4, Try.ntmps4
  go_wp2_with fail
  refine (examples_any _).mono ?_
  rintro e w1 ⟨rfl, hB⟩
  go_wp2_with fail
  refine (new_any _).mono ?_
  rintro e w2 ⟨rfl, hw⟩
  have ht := Tim.new_eq hw
  have hNt : w.heap.size ≤ w1.heap.size := hB.size
  replace hB := below_alloc_eq hB hNt hw
  clear hw
  generalize w1.heap.size = Bt at ht hNt ⊢
  go_wp2_with fail
  go_loopw [5] (fun i wr => ∃ k : Nat, k ≤ len ∧ k ≤ 100 ∧ i = .int .i64 k ∧ Tim Bt (after cs k) wr ∧ Below w.heap.size w wr) (fun i _ => 100 - (intOf i).toNat)
  case atStart => exact ⟨0, Nat.zero_le _, by omega, rfl, ht, hB⟩
  case round =>
    obtain ⟨k, hk1, hk2, rfl, htk, hBk⟩ := hrel
    clear ht hB
    by_cases hlt : k < len
    · by_cases hl1 : k < 100
      · obtain ⟨b, off, rfl, hbs, hc⟩ := HCS.out.2 (by omega)
        obtain ⟨d0, d1, d2, d3, d4, d5, d6⟩ := hc k hlt
        clear hc
        have hfk := HF.out k (by omega)
        have hfk1 := HF.out (k + 1) (by omega)
        have HA := Lib.hid (show after cs (k + 1) = (after cs k).call (cs k).kind (cs k).now (cs k).n from rfl)
        generalize after cs k = t at *
        generalize ht2 : after cs (k + 1) = t2 at *
        have HT2 := Lib.hid ht2
        clear ht2
        generalize (cs k).kind = kd at *
        generalize (cs k).now = nw at *
        generalize (cs k).n = nn at *
        have f1 : (k : Int) < (len : Int) := by omega
        have f2 : (k : Int) < 100 := by omega
        go_wp2_with fail
        refine (value_any Bt t hfk.1 _ htk).mono ?_
        rintro e w3 ⟨rfl, hbw⟩
        replace hBk := below_val hBk hBk.size hbw
        replace htk := htk.below hbw
        clear hbw
        have g0 : w3.cell? ⟨b, off + k * 3, none⟩ = some (.int .u8 kd) := (hBk.cell (p := ⟨b, _, none⟩) hbs).trans d0
        have g1 : w3.cell? ⟨b, off + k * 3 + 1, none⟩ = some (.int .i64 nw) := (hBk.cell (p := ⟨b, _, none⟩) hbs).trans d1
        have g2 : w3.cell? ⟨b, off + k * 3 + 2, none⟩ = some (.int .i64 nn) := (hBk.cell (p := ⟨b, _, none⟩) hbs).trans d2
        go_wp2_with fail
        refine (do_any Bt t kd nw nn d3 d4 d5 hfk _ htk).mono ?_
        rintro e w4 ⟨rfl, hT, hc⟩
        rw [← HA.out] at hT
        replace hBk := below_chg hBk hNt htk.lt hc
        clear hc htk g0 g1 g2
        go_wp2_with fail
        refine (value_any Bt t2 hfk1.1 _ hT).mono ?_
        rintro e w5 ⟨rfl, hbw⟩
        replace hBk := below_val hBk hBk.size hbw
        replace hT := hT.below hbw
        clear hbw
        have g0 : w5.cell? ⟨b, off + k * 3, none⟩ = some (.int .u8 kd) := (hBk.cell (p := ⟨b, _, none⟩) hbs).trans d0
        obtain ⟨b1, b2⟩ := Tm.value_bd hfk.1
        obtain ⟨v1, v2⟩ := Tm.value_bd hfk1.1
        by_cases hk5 : kd % 6 = 5
        · by_cases h24 : 240 < 2 * t.value
          · have HV := Lib.hid (show t2.value = 240 by rw [HA.out, Tm.call_five hfk.1 _ _ hk5]; omega)
            rw [HV.out]
            go_wp2_with fail
            go_roundw
            case rel => exact ⟨k + 1, by omega, by omega, by go_num, by rw [HT2.out]; exact hT, hBk⟩
            case measure => simp [intOf]; omega
          · have HV := Lib.hid (show t2.value = 2 * t.value by rw [HA.out, Tm.call_five hfk.1 _ _ hk5]; omega)
            rw [HV.out]
            go_wp2_with fail
            go_roundw
            case rel => exact ⟨k + 1, by omega, by omega, by go_num, by rw [HT2.out]; exact hT, hBk⟩
            case measure => simp [intOf]; omega
        · by_cases hk3 : kd % 6 < 3
          · have HV := Lib.hid (show t2.value = t.value by rw [HA.out, Tm.call_low _ _ _ hk3])
            rw [HV.out]
            go_wp2_with fail
            go_roundw
            case rel => exact ⟨k + 1, by omega, by omega, by go_num, by rw [HT2.out]; exact hT, hBk⟩
            case measure => simp [intOf]; omega
          · go_wp2_with fail
            go_roundw
            case rel => exact ⟨k + 1, by omega, by omega, by go_num, by rw [HT2.out]; exact hT, hBk⟩
            case measure => simp [intOf]; omega
      · obtain rfl : k = 100 := by omega
        go_wp2_with fail
        go_ret
        exact ⟨rfl, hBk⟩
    · obtain rfl : k = len := by omega
      go_wp2_with fail
      go_ret
      exact ⟨rfl, hBk⟩
end Go.Proofs.Ytgbmkoodhmchoaa
