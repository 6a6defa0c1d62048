/- RTOSequenceWraps: its walk. -/
import Derived.Test.YtgbmkoodhmchoaaRtoKarn
import Derived.Test.YtgbmkoodhmchoaaSeq
namespace Go.Proofs.Ytgbmkoodhmchoaa
open Go.RowKit
/-- The timer, the tick and the offset after i samples. -/
def swr (zs : List Int) : Nat → Tm × Int × Int
  | 0 => (tm0, 0, 0)
  | i + 1 => (((swr zs i).1.sent (swr zs i).2.1 (swr zs i).2.2).acked ((swr zs i).2.1 + zs.getD i 0) ((swr zs i).2.2 + 1 + zs.getD i 0 * 7), (swr zs i).2.1 + zs.getD i 0, (swr zs i).2.2 + 1 + zs.getD i 0 * 7)
theorem swr_bd (zs : List Int) (n : Nat) (h : ∀ i, i < n → 0 ≤ zs.getD i 0 ∧ zs.getD i 0 ≤ 255) : ∀ k, k ≤ n → 0 ≤ (swr zs k).2.1 ∧ (swr zs k).2.1 ≤ 255 * k ∧ 0 ≤ (swr zs k).2.2 ∧ (swr zs k).2.2 ≤ 1786 * k
  | 0, _ => by simp [swr]
  | k + 1, hk => by
    obtain ⟨a, b, c, d⟩ := swr_bd zs n h k (by omega)
    obtain ⟨e, f⟩ := h k (by omega)
    show 0 ≤ (swr zs k).2.1 + zs.getD k 0 ∧ (swr zs k).2.1 + zs.getD k 0 ≤ 255 * ((k + 1 : Nat) : Int) ∧ 0 ≤ (swr zs k).2.2 + 1 + zs.getD k 0 * 7 ∧ (swr zs k).2.2 + 1 + zs.getD k 0 * 7 ≤ 1786 * ((k + 1 : Nat) : Int)
    omega
theorem swr_fit (zs : List Int) (n : Nat) (hn : n ≤ 30) (h : ∀ i, i < n → 0 ≤ zs.getD i 0 ∧ zs.getD i 0 ≤ 255) : ∀ k, k ≤ n → (swr zs k).1.Fit
  | 0, _ => tm0_fit
  | k + 1, hk => by
    obtain ⟨a, b, _, _⟩ := swr_bd zs n h k (by omega)
    exact Tm.acked_fit (Tm.sent_fit (swr_fit zs n hn h k (by omega)) _ _ (by unfold In64; omega)) _ _
set_option maxHeartbeats 6400000 in
set_option maxRecDepth 100000 in
theorem walk_RTOSequenceWraps (w : World) (a : Option Addr) (len cap : Nat) (zs : List Int) (hrow : IsRow .u8 w a len cap zs) (x : Int) (_hx : (Lit.int .i64 x).wf = true) (y : Int) (_hy : (Lit.int .i64 y).wf = true) :
    Calls Try.prog 9 #[.slice a len cap, .int .i64 x, .int .i64 y] w fun r w' => r = .returned (.bool true) ∧ Below w.heap.size w w' := by
  have hz : ∀ i, i < min len 30 → 0 ≤ zs.getD i 0 ∧ zs.getD i 0 ≤ 255 := by
    intro i hi
    obtain ⟨b, off, _, _, _, hc⟩ := hrow.at (by omega)
    exact bounds_u8 (hc i (by omega)).2
  have HZ := Lib.hid hz
  have HBD := Lib.hid (swr_bd zs (min len 30) hz)
  have HFIT := Lib.hid (swr_fit zs (min len 30) (by omega) hz)
  have HROW := Lib.hid hrow
  clear hz hrow _hx _hy
  go_enter Try.func9, Try.ntmps9
  go_wp2_with fail
  refine (examples_any _).mono ?_
  rintro e w1 ⟨rfl, hB⟩
  go_wp2_with fail
  refine (add_any x 0 _).mono ?_
  rintro e w2 ⟨rfl, rfl⟩
  generalize addV x 0 = p
  go_wp2_with fail
  refine (add_any y 0 _).mono ?_
  rintro e w2 ⟨rfl, rfl⟩
  generalize addV y 0 = q
  go_wp2_with fail
  refine (new_any _).mono ?_
  rintro e w2 ⟨rfl, hw⟩
  have ht := Tim.new_eq hw
  have hNt : w.heap.size ≤ w1.heap.size := hB.size
  replace hB := below_alloc_eq hB hNt hw
  clear hw
  generalize w1.heap.size = Bt at ht hNt ⊢
  go_wp2_with fail
  refine (new_any _).mono ?_
  rintro e w3 ⟨rfl, hw⟩
  have hu := Tim.new_eq hw
  have hNu : w.heap.size ≤ w2.heap.size := hB.size
  have hne : Bt ≠ w2.heap.size := by have := ht.lt; omega
  replace hB := below_alloc_eq hB hNu hw
  replace ht := ht.alloc_eq hw
  clear hw
  generalize w2.heap.size = Bu at hu hNu hne ⊢
  go_wp2_with fail
  go_loopw [12, 13, 14] (fun v o i wr => ∃ k : Nat, k ≤ min len 30 ∧ i = .int .i64 k ∧ v = .int .i64 (swr zs k).2.1 ∧ o = .int .i64 (swr zs k).2.2 ∧ Tim Bt (swr zs k).1 wr ∧ Tim Bu (swr zs k).1 wr ∧ Below w.heap.size w wr) (fun _ _ i _ => 30 - (intOf i).toNat)
  case atStart => exact ⟨0, Nat.zero_le _, rfl, rfl, rfl, ht, hu, hB⟩
  case round =>
    obtain ⟨k, hk, rfl, rfl, rfl, htk, huk, hBk⟩ := hrel
    clear ht hu hB
    obtain ⟨n1, n2, n3, n4⟩ := HBD.out k hk
    have hf := HFIT.out k hk
    by_cases hlt : k < len
    · by_cases hl3 : k < 30
      · obtain ⟨b, off, rfl, hml, hbs, hcs⟩ := HROW.out.at (by omega)
        obtain ⟨z1, z2⟩ := HZ.out k (by omega)
        have hf1 := HFIT.out (k + 1) (by omega)
        have hck := (hcs k hlt).1
        have HS := Lib.hid (show (swr zs (k + 1)) = (((swr zs k).1.sent (swr zs k).2.1 (swr zs k).2.2).acked ((swr zs k).2.1 + zs.getD k 0) ((swr zs k).2.2 + 1 + zs.getD k 0 * 7), (swr zs k).2.1 + zs.getD k 0, (swr zs k).2.2 + 1 + zs.getD k 0 * 7) from rfl)
        have hf2 : (((swr zs k).1.sent (swr zs k).2.1 (swr zs k).2.2).acked ((swr zs k).2.1 + zs.getD k 0) ((swr zs k).2.2 + 1 + zs.getD k 0 * 7)).Fit := hf1
        clear hcs hf1
        generalize (swr zs k).2.1 = now at *
        generalize (swr zs k).2.2 = o at *
        generalize (swr zs k).1 = m at *
        generalize zs.getD k 0 = z at *
        have f1 : (k : Int) < (len : Int) := by omega
        have f2 : (k : Int) < 30 := by omega
        go_wp2_with fail
        refine (add_any p o _).mono ?_
        rintro e w' ⟨rfl, rfl⟩
        go_wp2_with fail
        refine (diff_any _ p _).mono ?_
        rintro e w' ⟨rfl, rfl⟩
        rw [diff_add p o (by omega) (by omega)]
        go_wp2_with fail
        refine (add_any q o _).mono ?_
        rintro e w' ⟨rfl, rfl⟩
        go_wp2_with fail
        refine (diff_any _ q _).mono ?_
        rintro e w' ⟨rfl, rfl⟩
        rw [diff_add q o (by omega) (by omega)]
        go_wp2_with fail
        refine (sent_any Bt m now o _ htk).mono ?_
        rintro e w4 ⟨rfl, hT, hc⟩
        replace hBk := below_chg hBk hNt htk.lt hc
        replace huk := huk.other hc hne.symm
        clear hc htk
        go_wp2_with fail
        refine (sent_any Bu m now o _ huk).mono ?_
        rintro e w5 ⟨rfl, hU, hc⟩
        replace hBk := below_chg hBk hNu huk.lt hc
        replace hT := hT.other hc hne
        clear hc huk
        have hck2 : w5.cell? ⟨b, off + k, none⟩ = some (.int .u8 z) := (hBk.cell (p := ⟨b, off + k, none⟩) hbs).trans hck
        go_wp2_with fail
        refine (add_any p (o + 1 + z * 7) _).mono ?_
        rintro e w' ⟨rfl, rfl⟩
        go_wp2_with fail
        refine (diff_any _ p _).mono ?_
        rintro e w' ⟨rfl, rfl⟩
        rw [diff_add p (o + 1 + z * 7) (by omega) (by omega)]
        go_wp2_with fail
        refine (acked_any Bt _ (now + z) (o + 1 + z * 7) (by unfold In64; omega) (Tm.sent_fit hf _ _ (by unfold In64; omega)) _ hT).mono ?_
        rintro e w6 ⟨rfl, hT2, hc⟩
        replace hBk := below_chg hBk hNt hT.lt hc
        replace hU := hU.other hc hne.symm
        clear hc hT hck2
        go_wp2_with fail
        refine (add_any q (o + 1 + z * 7) _).mono ?_
        rintro e w' ⟨rfl, rfl⟩
        go_wp2_with fail
        refine (diff_any _ q _).mono ?_
        rintro e w' ⟨rfl, rfl⟩
        rw [diff_add q (o + 1 + z * 7) (by omega) (by omega)]
        go_wp2_with fail
        refine (acked_any Bu _ (now + z) (o + 1 + z * 7) (by unfold In64; omega) (Tm.sent_fit hf _ _ (by unfold In64; omega)) _ hU).mono ?_
        rintro e w7 ⟨rfl, hU2, hc⟩
        replace hBk := below_chg hBk hNu hU.lt hc
        replace hT2 := hT2.other hc hne
        clear hc hU
        go_wp2_with fail
        refine (value_any Bt _ hf2.1 _ hT2).mono ?_
        rintro e w8 ⟨rfl, hbw⟩
        replace hBk := below_val hBk hBk.size hbw
        replace hT2 := hT2.below hbw
        replace hU2 := hU2.below hbw
        clear hbw
        go_wp2_with fail
        refine (value_any Bu _ hf2.1 _ hU2).mono ?_
        rintro e w9 ⟨rfl, hbw⟩
        replace hBk := below_val hBk hBk.size hbw
        replace hT2 := hT2.below hbw
        replace hU2 := hU2.below hbw
        clear hbw
        go_wp2_with fail
        go_roundw
        case rel => exact ⟨k + 1, by omega, by go_num, by rw [HS.out], by rw [HS.out], by rw [HS.out]; exact hT2, by rw [HS.out]; exact hU2, hBk⟩
        case measure => simp [intOf]; omega
      · obtain rfl : k = 30 := by omega
        go_wp2_with fail
        go_ret
        exact ⟨rfl, hBk⟩
    · obtain rfl : k = len := by omega
      go_wp2_with fail
      go_ret
      exact ⟨rfl, hBk⟩
end Go.Proofs.Ytgbmkoodhmchoaa
