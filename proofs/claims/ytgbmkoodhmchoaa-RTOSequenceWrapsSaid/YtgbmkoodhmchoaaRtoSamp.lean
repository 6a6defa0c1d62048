/- pick and sampled. -/
import Derived.Test.YtgbmkoodhmchoaaRtoEx
import Derived.Test.YtgbmkoodhmchoaaBlk
namespace Go.Proofs.Ytgbmkoodhmchoaa
open Go.RowKit
def pickV (c n : Int) : Int := (if c < 0 then -(c + 1) else c) % n
set_option maxHeartbeats 400000 in
theorem pick_any (c n : Int) (w : World) (h1 : -9223372036854775808 ≤ c) (h2 : c ≤ 9223372036854775807) (hn : 1 ≤ n) (hn2 : n ≤ 9223372036854775807) :
    Calls Try.prog 13 #[.int .i64 c, .int .i64 n] w fun r w' => r = .returned (.int .i64 (pickV c n)) ∧ w = w' := by
  by_cases c1 : c < 0
  · have H := Lib.hid (show -((c + 1).tmod n) = pickV c n by unfold pickV; rw [if_pos c1, ← Int.neg_tmod, Int.tmod_eq_emod_of_nonneg (by omega)])
    go_enter Try.func13, Try.ntmps13
    go_wp2
    go_ret
    exact ⟨ret_i H.out, rfl⟩
  · have H := Lib.hid (show c % n = pickV c n by unfold pickV; rw [if_neg c1])
    go_enter Try.func13, Try.ntmps13
    go_wp2
    go_ret
    exact ⟨ret_i H.out, rfl⟩
theorem pickV_bd (c n : Int) (hn : 1 ≤ n) : 0 ≤ pickV c n ∧ pickV c n < n := by
  unfold pickV; exact ⟨Int.emod_nonneg _ (by omega), Int.emod_lt_of_pos _ (by omega)⟩
/-- The timer and the tick after i samples. -/
def samp (zs : List Int) : Nat → Tm × Int
  | 0 => (tm0, 0)
  | i + 1 => (((samp zs i).1.sent (samp zs i).2 i).acked ((samp zs i).2 + zs.getD i 0) i, (samp zs i).2 + zs.getD i 0)
theorem samp_now (zs : List Int) (n : Nat) (h : ∀ i, i < n → 0 ≤ zs.getD i 0 ∧ zs.getD i 0 ≤ 255) : ∀ k, k ≤ n → 0 ≤ (samp zs k).2 ∧ (samp zs k).2 ≤ 255 * k
  | 0, _ => by simp [samp]
  | k + 1, hk => by
    obtain ⟨a, b⟩ := samp_now zs n h k (by omega)
    obtain ⟨c, d⟩ := h k (by omega)
    show 0 ≤ (samp zs k).2 + zs.getD k 0 ∧ (samp zs k).2 + zs.getD k 0 ≤ 255 * ((k + 1 : Nat) : Int)
    omega
theorem samp_fit (zs : List Int) (n : Nat) (hn : n ≤ 30) (h : ∀ i, i < n → 0 ≤ zs.getD i 0 ∧ zs.getD i 0 ≤ 255) : ∀ k, k ≤ n → (samp zs k).1.Fit
  | 0, _ => tm0_fit
  | k + 1, hk => by
    obtain ⟨a, b⟩ := samp_now zs n h k (by omega)
    exact Tm.acked_fit (Tm.sent_fit (samp_fit zs n hn h k (by omega)) _ _ (by unfold In64; omega)) _ _
set_option maxHeartbeats 3200000 in
theorem sampled_any (w : World) (a : Option Addr) (len cap : Nat) (zs : List Int) (hrow : IsRow .u8 w a len cap zs) :
    Calls Try.prog 18 #[.slice a len cap] w fun e w' => e = .returned (.pointer (some ⟨w.heap.size, 0, none⟩)) ∧ Tim w.heap.size (samp zs (min len 30)).1 w' ∧ Below w.heap.size w w' := by
  have hz : ∀ i, i < min len 30 → 0 ≤ zs.getD i 0 ∧ zs.getD i 0 ≤ 255 := by
    intro i hi
    obtain ⟨b, off, _, _, _, hc⟩ := hrow.at (by omega)
    exact bounds_u8 (hc i (by omega)).2
  have hnow := samp_now zs (min len 30) hz
  have hfit := samp_fit zs (min len 30) (by omega) hz
  have HZ := Lib.hid hz
  have HNOW := Lib.hid hnow
  have HFIT := Lib.hid hfit
  have HROW := Lib.hid hrow
  clear hz hnow hfit hrow
  go_enter Try.func18, Try.ntmps18
  go_wp2_with fail
  refine (new_any _).mono ?_
  rintro e w1 ⟨rfl, hw⟩
  have hT := Tim.new_eq hw
  have hB := below_alloc_eq (Below.refl w.heap.size w) (Nat.le_refl _) hw
  clear hw
  go_wp2_with fail
  have hNB : w.heap.size ≤ w.heap.size := Nat.le_refl _
  generalize hBB : w.heap.size = B at hT hB ⊢
  go_loopw [4, 5] (fun v i wr => ∃ k : Nat, k ≤ min len 30 ∧ i = .int .i64 k ∧ v = .int .i64 (samp zs k).2 ∧ Tim B (samp zs k).1 wr ∧ Below B w wr) (fun _ i _ => 30 - (intOf i).toNat)
  case atStart => exact ⟨0, Nat.zero_le _, rfl, rfl, hT, hB⟩
  case round =>
    obtain ⟨k, hk, rfl, rfl, hTk, hBk⟩ := hrel
    obtain ⟨n1, n2⟩ := HNOW.out k hk
    have hf := HFIT.out k hk
    by_cases hlt : k < len
    · by_cases hl3 : k < 30
      · obtain ⟨b, off, rfl, hml, hbs, hcs⟩ := HROW.out.at (by omega)
        obtain ⟨z1, z2⟩ := HZ.out k (by omega)
        obtain ⟨n3, n4⟩ := HNOW.out (k + 1) (by omega)
        have hck := (hcs k hlt).1
        have hs : (samp zs (k + 1)) = (((samp zs k).1.sent (samp zs k).2 k).acked ((samp zs k).2 + zs.getD k 0) k, (samp zs k).2 + zs.getD k 0) := rfl
        have HS := Lib.hid hs
        clear hs hcs
        generalize (samp zs k).2 = now at *
        generalize (samp zs k).1 = m at *
        generalize zs.getD k 0 = z at *
        have f1 : (k : Int) < (len : Int) := by omega
        have f2 : (k : Int) < 30 := by omega
        go_wp2_with fail
        refine (sent_any B m now k _ hTk).mono ?_
        rintro e w2 ⟨rfl, hT2, hC2⟩
        have hB2 := below_chg hBk (Nat.le_refl _) hTk.lt hC2
        have hck2 : w2.cell? ⟨b, off + k, none⟩ = some (.int .u8 z) := (hB2.cell (p := ⟨b, off + k, none⟩) (by rw [← hBB]; exact hbs)).trans hck
        clear hck hC2 hTk hBk
        go_wp2_with fail
        refine (acked_any B (m.sent now k) (now + z) k (by unfold In64; omega) (Tm.sent_fit hf _ _ (by unfold In64; omega)) _ hT2).mono ?_
        rintro e w3 ⟨rfl, hT3, hC3⟩
        have hB3 := below_chg hB2 (Nat.le_refl _) hT2.lt hC3
        clear hck2 hC3 hT2 hB2
        go_wp2_with fail
        go_roundw
        case rel => exact ⟨k + 1, by omega, by go_num, by rw [HS.out], by rw [HS.out]; exact hT3, hB3⟩
        case measure => simp [intOf]; omega
      · obtain rfl : k = 30 := by omega
        go_wp2_with fail
        go_ret
        subst hBB
        rw [show min len 30 = 30 by omega]
        exact ⟨rfl, hTk, hBk⟩
    · obtain rfl : k = len := by omega
      go_wp2_with fail
      go_ret
      subst hBB
      rw [show min k 30 = k by omega]
      exact ⟨rfl, hTk, hBk⟩
end Go.Proofs.Ytgbmkoodhmchoaa
