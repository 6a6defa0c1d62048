/- RTOKarn: its walk. -/
import Derived.Test.YtgbmkoodhmchoaaRtoSamp
namespace Go.Proofs.Ytgbmkoodhmchoaa
open Go.RowKit
def Tm.backN (m : Tm) : Nat → Tm
  | 0 => m
  | k + 1 => (m.backN k).backoff
theorem Tm.backN_fit {m : Tm} (h : m.Fit) : ∀ k, (m.backN k).Fit
  | 0 => h
  | k + 1 => Tm.backoff_fit (Tm.backN_fit h k)
theorem Tm.backN_eq (m : Tm) : ∀ k, ∃ b, m.backN k = { m with backs := b }
  | 0 => ⟨m.backs, rfl⟩
  | k + 1 => by
    obtain ⟨b, hb⟩ := Tm.backN_eq m k
    refine ⟨min (b + 1) 8, ?_⟩
    show (m.backN k).backoff = _
    rw [hb]; rfl
theorem Tm.sample_idle (m : Tm) (r : Int) : (m.sample r).timing = m.timing := by unfold Tm.sample; split <;> rfl
/-- A timer that does not time: it takes the sample at once. -/
theorem Tm.round {m : Tm} (h : m.timing = false) (s n g : Int) : (m.sent s g).acked n g = Tm.sample { m with timing := false, goal := g, since := s, backs := 0 } (elapsedV s n) := by
  unfold Tm.sent
  rw [if_neg (by rw [h]; decide)]
  unfold Tm.acked
  rw [if_pos ⟨rfl, Int.le_refl _⟩]
theorem samp_idle (zs : List Int) : ∀ k, (samp zs k).1.timing = false
  | 0 => rfl
  | k + 1 => by
    show (((samp zs k).1.sent (samp zs k).2 k).acked ((samp zs k).2 + zs.getD k 0) k).timing = false
    rw [Tm.round (samp_idle zs k), Tm.sample_idle]
theorem karn_same (m : Tm) (k : Nat) (n : Int) : ((m.sent 9000 100).backN k).retr.acked n 200 = ((m.sent 9000 100).backN k).retr := by
  unfold Tm.acked
  rw [if_neg]
  intro h
  exact absurd h.1 (show ¬ (false = true) by decide)
theorem karn_next (m : Tm) (h : m.timing = false) (k : Nat) (n : Int) : ((((m.sent 9000 100).backN k).retr.sent 10000 300).acked n 300) = ((m.sent 10000 300).acked n 300) := by
  rw [Tm.round rfl, Tm.round h]
  obtain ⟨b, hb⟩ := Tm.backN_eq (m.sent 9000 100) k
  rw [hb]
  unfold Tm.sent Tm.retr
  rw [if_neg (by rw [h]; decide)]
theorem IsRow.below {k : IntKind} {w w' : World} {a : Option Addr} {len cap : Nat} {zs : List Int} (h : IsRow k w a len cap zs) (hb : Below w.heap.size w w') : IsRow k w' a len cap zs := by
  rcases h with h | ⟨x, rfl, h1, h2, h3, h4, h5⟩
  · exact .inl h
  · exact .inr ⟨x, rfl, h1, h2, h3, fun i hi => (hb.cell (block_lt_of_cell (h4 i hi))).trans (h4 i hi), h5⟩
set_option maxHeartbeats 6400000 in
theorem karn_t (w : World) (a : Option Addr) (len cap : Nat) (zs : List Int) (hrow : IsRow .u8 w a len cap zs) (late next backs : Nat) (hl : late < 256) (hn : next < 256) (hb : backs < 256) :
    Calls Try.prog 5 #[.slice a len cap, .int .u8 late, .int .u8 next, .int .u8 backs] w fun r w' => r = .returned (.bool true) ∧ Below w.heap.size w w' := by
  have hfit : (samp zs (min len 30)).1.Fit := by
    refine samp_fit zs (min len 30) (by omega) ?_ _ (Nat.le_refl _)
    intro i hi
    obtain ⟨b, off, _, _, _, hc⟩ := hrow.at (by omega)
    exact bounds_u8 (hc i (by omega)).2
  have hidle := samp_idle zs (min len 30)
  have HROW := Lib.hid hrow
  clear hrow
  go_enter Try.func5, Try.ntmps5
  go_wp2_with fail
  refine (examples_any _).mono ?_
  rintro e w1 ⟨rfl, hB⟩
  go_wp2_with fail
  refine (sampled_any _ a len cap zs (HROW.out.below hB)).mono ?_
  rintro e w2 ⟨rfl, ht, hb2⟩
  have hNt : w.heap.size ≤ w1.heap.size := hB.size
  replace hB := below_val hB hB.size hb2
  generalize w1.heap.size = Bt at ht hNt ⊢
  go_wp2_with fail
  refine (sampled_any _ a len cap zs (HROW.out.below hB)).mono ?_
  rintro e w3 ⟨rfl, hu, hb3⟩
  have hNu : w.heap.size ≤ w2.heap.size := hB.size
  have hne : Bt ≠ w2.heap.size := by have := ht.lt; omega
  replace hB := below_val hB hB.size hb3
  replace ht := ht.below hb3
  generalize w2.heap.size = Bu at hu hNu hne ⊢
  generalize (samp zs (min len 30)).1 = m at *
  clear hb2 hb3 HROW
  go_wp2_with fail
  refine (sent_any Bt m 9000 100 _ ht).mono ?_
  rintro e w4 ⟨rfl, ht4, hc⟩
  replace hB := below_chg hB hNt ht.lt hc
  replace hu := hu.other hc hne.symm
  clear hc ht
  go_wp2_with fail
  have hfs : (m.sent 9000 100).Fit := Tm.sent_fit hfit _ _ (by unfold In64; decide)
  have HF := Lib.hid (fun k => Tm.backN_fit hfs k)
  have HSAME := Lib.hid (fun k n => karn_same m k n)
  have HNEXT := Lib.hid (fun k n => karn_next m hidle k n)
  clear hfs hidle
  go_loopw [12] (fun i wr => ∃ k : Nat, k ≤ backs % 9 ∧ i = .int .i64 k ∧ Tim Bt ((m.sent 9000 100).backN k) wr ∧ Tim Bu m wr ∧ Below w.heap.size w wr) (fun i _ => 9 - (intOf i).toNat)
  case atStart => exact ⟨0, Nat.zero_le _, rfl, ht4, hu, hB⟩
  case round =>
    obtain ⟨k, hk, rfl, htk, huk, hBk⟩ := hrel
    clear ht4 hu hB
    by_cases hlt : k < backs % 9
    · have f1 : (k : Int) < ((backs : Int) % 9) := by omega
      have f2 : (k : Int) < ((backs % 9 : Nat) : Int) := by omega
      go_wp2_with fail
      refine (backoff_any Bt _ (HF.out k).1 _ htk).mono ?_
      rintro e w5 ⟨rfl, ht5, hc⟩
      have hB5 := below_chg hBk hNt htk.lt hc
      have hu5 := huk.other hc hne.symm
      clear hc htk huk hBk
      go_wp2_with fail
      go_roundw
      case rel => exact ⟨k + 1, by omega, by go_num, ht5, hu5, hB5⟩
      case measure => simp [intOf]; omega
    · obtain rfl : k = backs % 9 := by omega
      have f1 : ¬ ((backs % 9 : Nat) : Int) < ((backs : Int) % 9) := by omega
      generalize hkk : backs % 9 = k at *
      have f2 : (backs : Int) % 9 = (k : Int) := by omega
      go_wp2_with fail
      have hfr := Tm.retr_fit (HF.out k)
      have hfr2 := Tm.sent_fit hfr 10000 300 (by unfold In64; decide)
      have hfu := Tm.sent_fit hfit 10000 300 (by unfold In64; decide)
      have hfr3 := Tm.acked_fit hfr2 (10000 + (next : Int)) 300
      have hfu3 := Tm.acked_fit hfu (10000 + (next : Int)) 300
      refine (retr_any Bt _ _ htk).mono ?_
      rintro e w6 ⟨rfl, hT, hc⟩
      replace hBk := below_chg hBk hNt htk.lt hc
      replace huk := huk.other hc hne.symm
      replace htk := hT
      clear hc hT
      go_wp2_with fail
      refine (value_any Bt _ (hfr).1 _ htk).mono ?_
      rintro e w7 ⟨rfl, hbw⟩
      replace hBk := below_val hBk hBk.size hbw
      replace htk := htk.below hbw
      replace huk := huk.below hbw
      clear hbw
      go_wp2_with fail
      refine (acked_any Bt _ (9000 + (late : Int)) 200 (by unfold In64; omega) hfr _ htk).mono ?_
      rintro e w8 ⟨rfl, hT, hc⟩
      replace hBk := below_chg hBk hNt htk.lt hc
      replace huk := huk.other hc hne.symm
      replace htk := hT
      rw [HSAME.out] at htk
      clear hc hT
      go_wp2_with fail
      refine (value_any Bt _ (hfr).1 _ htk).mono ?_
      rintro e w9 ⟨rfl, hbw⟩
      replace hBk := below_val hBk hBk.size hbw
      replace htk := htk.below hbw
      replace huk := huk.below hbw
      clear hbw
      go_wp2_with fail
      refine (sent_any Bt _ 10000 300 _ htk).mono ?_
      rintro e w10 ⟨rfl, hT, hc⟩
      replace hBk := below_chg hBk hNt htk.lt hc
      replace huk := huk.other hc hne.symm
      replace htk := hT
      clear hc hT
      go_wp2_with fail
      refine (acked_any Bt _ (10000 + (next : Int)) 300 (by unfold In64; omega) hfr2 _ htk).mono ?_
      rintro e w11 ⟨rfl, hT, hc⟩
      replace hBk := below_chg hBk hNt htk.lt hc
      replace huk := huk.other hc hne.symm
      replace htk := hT
      clear hc hT
      go_wp2_with fail
      refine (sent_any Bu _ 10000 300 _ huk).mono ?_
      rintro e w12 ⟨rfl, hT, hc⟩
      replace hBk := below_chg hBk hNu huk.lt hc
      replace htk := htk.other hc hne
      replace huk := hT
      clear hc hT
      go_wp2_with fail
      refine (acked_any Bu _ (10000 + (next : Int)) 300 (by unfold In64; omega) hfu _ huk).mono ?_
      rintro e w13 ⟨rfl, hT, hc⟩
      replace hBk := below_chg hBk hNu huk.lt hc
      replace htk := htk.other hc hne
      replace huk := hT
      clear hc hT
      go_wp2_with fail
      refine (value_any Bt _ (hfr3).1 _ htk).mono ?_
      rintro e w14 ⟨rfl, hbw⟩
      replace hBk := below_val hBk hBk.size hbw
      replace htk := htk.below hbw
      replace huk := huk.below hbw
      clear hbw
      go_wp2_with fail
      refine (value_any Bu _ (hfu3).1 _ huk).mono ?_
      rintro e w15 ⟨rfl, hbw⟩
      replace hBk := below_val hBk hBk.size hbw
      replace htk := htk.below hbw
      replace huk := huk.below hbw
      clear hbw
      go_wp2_with fail
      rw [HNEXT.out, beq_self_eq_true]
      go_ret
      exact ⟨rfl, hBk⟩
theorem walk_RTOKarn (w : World) (a : Option Addr) (len cap : Nat) (zs : List Int) (hrow : IsRow .u8 w a len cap zs) (late : Int) (hl : (Lit.int .u8 late).wf = true) (next : Int) (hn : (Lit.int .u8 next).wf = true) (backs : Int) (hb : (Lit.int .u8 backs).wf = true) :
    Calls Try.prog 5 #[.slice a len cap, .int .u8 late, .int .u8 next, .int .u8 backs] w fun r w' => r = .returned (.bool true) ∧ Below w.heap.size w w' := by
  have h1 := bounds_u8 hl
  have h2 := bounds_u8 hn
  have h3 := bounds_u8 hb
  obtain ⟨late, rfl⟩ := Int.eq_ofNat_of_zero_le h1.1
  obtain ⟨next, rfl⟩ := Int.eq_ofNat_of_zero_le h2.1
  obtain ⟨backs, rfl⟩ := Int.eq_ofNat_of_zero_le h3.1
  exact karn_t w a len cap zs hrow late next backs (by omega) (by omega) (by omega)
end Go.Proofs.Ytgbmkoodhmchoaa
