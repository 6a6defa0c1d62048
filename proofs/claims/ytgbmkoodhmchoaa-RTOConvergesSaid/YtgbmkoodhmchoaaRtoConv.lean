/- RTOConverges: its walk. -/
import Derived.Test.YtgbmkoodhmchoaaCvPlain
import Derived.Outline
namespace Go.Proofs.Ytgbmkoodhmchoaa
open Go.RowKit
set_option maxHeartbeats 6400000 in
theorem conv_t (w : World) (a : Option Addr) (len cap : Nat) (zs : List Int) (hrow : IsRow .u8 w a len cap zs) (each : Nat) (hl : each < 256) :
    Calls Try.prog 6 #[.slice a len cap, .int .u8 each] w fun r w' => r = .returned (.bool true) ∧ Below w.heap.size w w' := by
  have hfit : (samp zs (min len 30)).1.Fit := by
    refine samp_fit zs (min len 30) (by omega) ?_ _ (Nat.le_refl _)
    intro i hi
    obtain ⟨b, off, _, _, _, hc⟩ := hrow.at (by omega)
    exact bounds_u8 (hc i (by omega)).2
  have hidle := samp_idle zs (min len 30)
  have HROW := Lib.hid hrow
  clear hrow
  go_enter Try.func6, Try.ntmps6
  go_wp2_with fail
  refine (examples_any _).mono ?_
  rintro e w1 ⟨rfl, hB⟩
  go_wp2_with fail
  refine (sampled_any _ a len cap zs (HROW.out.below hB)).mono ?_
  rintro e w2 ⟨rfl, ht, hb2⟩
  have hNt : w.heap.size ≤ w1.heap.size := hB.size
  replace hB := below_val hB hB.size hb2
  generalize w1.heap.size = Bt at ht hNt ⊢
  generalize (samp zs (min len 30)).1 = m at *
  clear hb2 HROW
  go_wp2_with fail
  obtain ⟨n, hn⟩ : ∃ n : Int, 1 + (each : Int) % 200 = n := ⟨_, rfl⟩
  have n1 : 1 ≤ n := by omega
  have n2 : n ≤ 200 := by omega
  rw [hn]
  clear hn
  have HF := Lib.hid (fun k hk => conv_fit hfit n1 n2 k hk)
  have HNW := Lib.hid (fun k => conv_now m n1 n2 k)
  have HS := Lib.hid (conv_said n1 n2 hfit.1 hidle)
  clear hidle
  go_loopw [8, 9] (fun v i wr => ∃ k : Nat, k ≤ 120 ∧ i = .int .i64 k ∧ v = .int .i64 (conv m n k).2 ∧ Tim Bt (conv m n k).1 wr ∧ Below w.heap.size w wr) (fun _ i _ => 120 - (intOf i).toNat)
  case atStart => exact ⟨0, Nat.zero_le _, rfl, rfl, ht, hB⟩
  case round =>
    obtain ⟨k, hk, rfl, rfl, htk, hBk⟩ := hrel
    clear ht hB
    obtain ⟨q1, q2⟩ := HNW.out k
    have hfk := HF.out k hk
    by_cases hlt : k < 120
    · have f1 : (k : Int) < 120 := by omega
      have HC := Lib.hid (show conv m n (k + 1) = (((conv m n k).1.sent (conv m n k).2 (1000 + k)).acked ((conv m n k).2 + n) (1000 + k), (conv m n k).2 + n) from rfl)
      generalize (conv m n k).2 = now at *
      generalize (conv m n k).1 = t at *
      go_wp2_with fail
      refine (sent_any Bt t now (1000 + (k : Int)) _ htk).mono ?_
      rintro e w3 ⟨rfl, hT, hc⟩
      replace hBk := below_chg hBk hNt htk.lt hc
      clear hc htk
      go_wp2_with fail
      refine (acked_any Bt _ (now + n) (1000 + (k : Int)) (by unfold In64; omega) (Tm.sent_fit hfk _ _ (by unfold In64; omega)) _ hT).mono ?_
      rintro e w4 ⟨rfl, hT2, hc⟩
      replace hBk := below_chg hBk hNt hT.lt hc
      clear hc hT
      go_wp2_with fail
      go_roundw
      case rel => exact ⟨k + 1, by omega, by go_num, by rw [HC.out], by rw [HC.out]; exact hT2, hBk⟩
      case measure => simp [intOf]; omega
    · obtain rfl : k = 120 := by omega
      generalize (conv m n 120).2 = now at *
      obtain ⟨v1, v2, v3, v4⟩ := HS.out now 5000
      generalize (conv m n 120).1 = t at *
      have HV := Lib.hid v1
      clear v1 HS HF HNW
      have hf2 := Tm.sent_fit hfk now 5000 (by unfold In64; omega)
      have hf3 := Tm.acked_fit hf2 (now + n) 5000
      go_wp2_with fail
      refine (value_any Bt t hfk.1 _ htk).mono ?_
      rintro e w3 ⟨rfl, hbw⟩
      replace hBk := below_val hBk hBk.size hbw
      replace htk := htk.below hbw
      clear hbw
      generalize t.value = a0 at *
      go_wp2_with fail
      refine (sent_any Bt t now 5000 _ htk).mono ?_
      rintro e w4 ⟨rfl, hT, hc⟩
      replace hBk := below_chg hBk hNt htk.lt hc
      clear hc htk
      go_wp2_with fail
      refine (acked_any Bt _ (now + n) 5000 (by unfold In64; omega) hf2 _ hT).mono ?_
      rintro e w5 ⟨rfl, hT2, hc⟩
      replace hBk := below_chg hBk hNt hT.lt hc
      clear hc hT
      by_cases h4 : n < 4
      · go_wp2_with fail
        refine (value_any Bt _ hf3.1 _ hT2).mono ?_
        rintro e w6 ⟨rfl, hbw⟩
        replace hBk := below_val hBk hBk.size hbw
        replace hT2 := hT2.below hbw
        clear hbw
        rw [HV.out]
        go_wp2_with fail
        refine (value_any Bt _ hf3.1 _ hT2).mono ?_
        rintro e w7 ⟨rfl, hbw⟩
        replace hBk := below_val hBk hBk.size hbw
        rw [HV.out]
        go_wp2_with fail
        go_ret
        exact ⟨rfl, hBk⟩
      · go_wp2_with fail
        refine (value_any Bt _ hf3.1 _ hT2).mono ?_
        rintro e w6 ⟨rfl, hbw⟩
        replace hBk := below_val hBk hBk.size hbw
        replace hT2 := hT2.below hbw
        clear hbw
        rw [HV.out]
        go_wp2_with fail
        refine (value_any Bt _ hf3.1 _ hT2).mono ?_
        rintro e w7 ⟨rfl, hbw⟩
        replace hBk := below_val hBk hBk.size hbw
        rw [HV.out]
        go_wp2_with fail
        go_ret
        exact ⟨rfl, hBk⟩
theorem walk_RTOConverges (w : World) (a : Option Addr) (len cap : Nat) (zs : List Int) (hrow : IsRow .u8 w a len cap zs) (each : Int) (hb : (Lit.int .u8 each).wf = true) :
    Calls Try.prog 6 #[.slice a len cap, .int .u8 each] w fun r w' => r = .returned (.bool true) ∧ Below w.heap.size w w' := by
  have h3 := bounds_u8 hb
  obtain ⟨each, rfl⟩ := Int.eq_ofNat_of_zero_le h3.1
  exact conv_t w a len cap zs hrow each (by omega)
end Go.Proofs.Ytgbmkoodhmchoaa
