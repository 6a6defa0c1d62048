/- RTOSingleTiming: its walk. -/
import Derived.Test.YtgbmkoodhmchoaaRtoKarn
namespace Go.Proofs.Ytgbmkoodhmchoaa
open Go.RowKit
theorem Tm.sent_timing {m : Tm} (h : m.timing = true) (s n : Int) : m.sent s n = m := by unfold Tm.sent; rw [if_pos h]
theorem Tm.acked_low {m : Tm} {u : Int} (h : u < m.goal) (s : Int) : m.acked s u = m := by
  unfold Tm.acked; rw [if_neg (fun x => by omega)]
theorem Tm.acked_high {m : Tm} {u v : Int} (h : m.goal ≤ u) (k : m.goal ≤ v) (s : Int) : m.acked s u = m.acked s v := by
  unfold Tm.acked
  by_cases ht : m.timing = true
  · rw [if_pos ⟨ht, h⟩, if_pos ⟨ht, k⟩]
  · rw [if_neg (fun x => ht x.1), if_neg (fun x => ht x.1)]
theorem Tm.sent_idle {m : Tm} (h : m.timing = false) (s n : Int) : (m.sent s n).timing = true ∧ (m.sent s n).goal = n := by
  unfold Tm.sent
  rw [if_neg (by rw [h]; decide)]
  exact ⟨rfl, rfl⟩
set_option maxHeartbeats 6400000 in
theorem sing_t (w : World) (a : Option Addr) (len cap : Nat) (zs : List Int) (hrow : IsRow .u8 w a len cap zs) (to : Int) (hto1 : -9223372036854775808 ≤ to) (hto2 : to ≤ 9223372036854775807) (more took : Nat) (hm : more < 256) (hk : took < 256) :
    Calls Try.prog 7 #[.slice a len cap, .int .i64 to, .int .u8 more, .int .u8 took] w fun r w' => r = .returned (.bool true) ∧ Below w.heap.size w w' := by
  have hfit : (samp zs (min len 30)).1.Fit := by
    refine samp_fit zs (min len 30) (by omega) ?_ _ (Nat.le_refl _)
    intro i hi
    obtain ⟨b, off, _, _, _, hc⟩ := hrow.at (by omega)
    exact bounds_u8 (hc i (by omega)).2
  have hidle := samp_idle zs (min len 30)
  have HROW := Lib.hid hrow
  clear hrow
  go_enter Try.func7, Try.ntmps7
  go_wp2_with fail
  refine (examples_any _).mono ?_
  rintro e w1 ⟨rfl, hB⟩
  go_wp2_with fail
  refine (sampled_any _ a len cap zs (HROW.out.below hB)).mono ?_
  rintro e w2 ⟨rfl, ht, hb2⟩
  have hNt : w.heap.size ≤ w1.heap.size := hB.size
  replace hB := below_val hB hB.size hb2
  generalize w1.heap.size = Bt at ht hNt ⊢
  go_wp2_with fail
  refine (sampled_any _ a len cap zs (HROW.out.below hB)).mono ?_
  rintro e w3 ⟨rfl, hu, hb3⟩
  have hNu : w.heap.size ≤ w2.heap.size := hB.size
  have hne : Bt ≠ w2.heap.size := by have := ht.lt; omega
  replace hB := below_val hB hB.size hb3
  replace ht := ht.below hb3
  generalize w2.heap.size = Bu at hu hNu hne ⊢
  generalize (samp zs (min len 30)).1 = m at *
  clear hb2 hb3 HROW
  go_wp2_with fail
  refine (pick_any to 1000000 _ hto1 hto2 (by omega) (by omega)).mono ?_
  rintro r w4 ⟨rfl, rfl⟩
  obtain ⟨p1, p2⟩ := pickV_bd to 1000000 (by omega)
  generalize pickV to 1000000 = n at p1 p2 ⊢
  have hn : In64 n ∧ n ≤ 1000000 ∧ 0 ≤ n := by unfold In64; omega
  have HN := Lib.hid hn
  clear hn hto1 hto2
  obtain ⟨s1, s2⟩ := Tm.sent_idle hidle 9000 n
  have hfs : (m.sent 9000 n).Fit := Tm.sent_fit hfit _ _ (by unfold In64; decide)
  go_wp2_with fail
  refine (sent_any Bt m 9000 n _ ht).mono ?_
  rintro e w5 ⟨rfl, ht4, hc⟩
  replace hB := below_chg hB hNt ht.lt hc
  replace hu := hu.other hc hne.symm
  clear hc ht
  go_wp2_with fail
  refine (sent_any Bu m 9000 n _ hu).mono ?_
  rintro e w6 ⟨rfl, hu4, hc⟩
  replace hB := below_chg hB hNu hu.lt hc
  replace ht4 := ht4.other hc hne
  clear hc hu
  generalize m.sent 9000 n = T at *
  go_wp2_with fail
  go_loopw [13] (fun i wr => ∃ k : Nat, k ≤ more % 7 ∧ i = .int .i64 k ∧ Tim Bt T wr ∧ Tim Bu T wr ∧ Below w.heap.size w wr) (fun i _ => 7 - (intOf i).toNat)
  case atStart => exact ⟨0, Nat.zero_le _, rfl, ht4, hu4, hB⟩
  case round =>
    obtain ⟨k, hkk, rfl, htk, huk, hBk⟩ := hrel
    clear ht4 hu4 hB
    by_cases hlt : k < more % 7
    · have f1 : (k : Int) < ((more : Int) % 7) := by omega
      have g1 : k < 7 := by omega
      go_wp2_with fail
      refine (sent_any Bt T (9000 + (k : Int)) (n + (k : Int)) _ htk).mono ?_
      rintro e w7 ⟨rfl, hT, hc⟩
      rw [Tm.sent_timing s1] at hT
      replace hBk := below_chg hBk hNt htk.lt hc
      replace huk := huk.other hc hne.symm
      replace htk := hT
      clear hc hT
      go_wp2_with fail
      refine (acked_any Bt T (9001 + (k : Int)) (n - 1 - (k : Int)) (by unfold In64; omega) hfs _ htk).mono ?_
      rintro e w8 ⟨rfl, hT, hc⟩
      rw [Tm.acked_low (by rw [s2]; omega)] at hT
      replace hBk := below_chg hBk hNt htk.lt hc
      replace huk := huk.other hc hne.symm
      replace htk := hT
      clear hc hT
      go_wp2_with fail
      go_roundw
      case rel => exact ⟨k + 1, by omega, by go_num, htk, huk, hBk⟩
      case measure => simp [intOf]; omega
    · obtain rfl : k = more % 7 := by omega
      generalize hkq : more % 7 = k at *
      have f2 : (more : Int) % 7 = (k : Int) := by omega
      have hfa := Tm.acked_fit hfs (9010 + (took : Int)) n
      have hhi := Tm.acked_high (m := T) (u := n + (more : Int)) (v := n) (by rw [s2]; omega) (by rw [s2]; omega) (9010 + (took : Int))
      have HHI := Lib.hid hhi
      clear hhi
      go_wp2_with fail
      refine (acked_any Bt T (9010 + (took : Int)) (n + (more : Int)) (by unfold In64; omega) hfs _ htk).mono ?_
      rintro e w8 ⟨rfl, hT, hc⟩
      rw [HHI.out] at hT
      replace hBk := below_chg hBk hNt htk.lt hc
      replace huk := huk.other hc hne.symm
      replace htk := hT
      clear hc hT
      go_wp2_with fail
      refine (acked_any Bu T (9010 + (took : Int)) n (by unfold In64; omega) hfs _ huk).mono ?_
      rintro e w9 ⟨rfl, hT, hc⟩
      replace hBk := below_chg hBk hNu huk.lt hc
      replace htk := htk.other hc hne
      replace huk := hT
      clear hc hT
      go_wp2_with fail
      refine (value_any Bt _ hfa.1 _ htk).mono ?_
      rintro e w10 ⟨rfl, hbw⟩
      replace hBk := below_val hBk hBk.size hbw
      replace huk := huk.below hbw
      clear hbw
      go_wp2_with fail
      refine (value_any Bu _ hfa.1 _ huk).mono ?_
      rintro e w11 ⟨rfl, hbw⟩
      replace hBk := below_val hBk hBk.size hbw
      clear hbw
      go_wp2_with fail
      go_ret
      exact ⟨rfl, hBk⟩
theorem walk_RTOSingleTiming (w : World) (a : Option Addr) (len cap : Nat) (zs : List Int) (hrow : IsRow .u8 w a len cap zs) (to : Int) (hto : (Lit.int .i64 to).wf = true) (more : Int) (hn : (Lit.int .u8 more).wf = true) (took : Int) (hb : (Lit.int .u8 took).wf = true) :
    Calls Try.prog 7 #[.slice a len cap, .int .i64 to, .int .u8 more, .int .u8 took] w fun r w' => r = .returned (.bool true) ∧ Below w.heap.size w w' := by
  have h1 := bounds_i64 hto
  have h2 := bounds_u8 hn
  have h3 := bounds_u8 hb
  obtain ⟨more, rfl⟩ := Int.eq_ofNat_of_zero_le h2.1
  obtain ⟨took, rfl⟩ := Int.eq_ofNat_of_zero_le h3.1
  exact sing_t w a len cap zs hrow to h1.1 h1.2 more took (by omega) (by omega)
end Go.Proofs.Ytgbmkoodhmchoaa
