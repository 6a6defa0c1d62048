/- The fixed examples of the congestion statements: they hold. -/
import Derived.Test.YtnjfpkjfacopkaaDoorCgAck
namespace Go.Proofs.YtnjfpkjfacopkaaDoor
open Go.RowKit
theorem below_chg {N : Nat} {w0 w w' : World} {B : Nat} (h : Below N w0 w) (hB : N ≤ B) (hl : B < w.heap.size) (c : Chg B w w') : Below N w0 w' := h.trans (c.below hB hl)
theorem below_val {N : Nat} {w0 w w' : World} (h : Below N w0 w) (hN : N ≤ w.heap.size) (c : Below w.heap.size w w') : Below N w0 w' := h.trans (c.mono hN)
theorem ErrS.chg {a : Addr} {B : Nat} {w w' : World} (h : ErrS a w) (hc : Chg B w w') (hne : 0 ≠ B) : ErrS a w' := ⟨(hc.cell (p := ⟨0, 0, none⟩) h.2 hne).trans h.1, hc.lt h.2⟩
def pickV (c n : Int) : Int := (if c < 0 then -(c + 1) else c) % n
set_option maxHeartbeats 400000 in
theorem pick_any (c n : Int) (w : World) (h1 : -9223372036854775808 ≤ c) (h2 : c ≤ 9223372036854775807) (hn : 1 ≤ n) (hn2 : n ≤ 9223372036854775807) :
    Calls Tryd.prog 11 #[.int .i64 c, .int .i64 n] w fun r w' => r = .returned (.int .i64 (pickV c n)) ∧ w = w' := by
  by_cases c1 : c < 0
  · have H := Lib.hid (show -((c + 1).tmod n) = pickV c n by unfold pickV; rw [if_pos c1, ← Int.neg_tmod, Int.tmod_eq_emod_of_nonneg (by omega)])
    go_enter Tryd.func11, Tryd.ntmps11
    go_wp2
    go_ret
    exact ⟨ret_i H.out, rfl⟩
  · have H := Lib.hid (show c % n = pickV c n by unfold pickV; rw [if_neg c1])
    go_enter Tryd.func11, Tryd.ntmps11
    go_wp2
    go_ret
    exact ⟨ret_i H.out, rfl⟩
theorem pickV_bd (c n : Int) (hn : 1 ≤ n) : 0 ≤ pickV c n ∧ pickV c n < n := by
  unfold pickV; exact ⟨Int.emod_nonneg _ (by omega), Int.emod_lt_of_pos _ (by omega)⟩
set_option maxHeartbeats 400000 in
theorem size_any (c : Int) (w : World) (h1 : -9223372036854775808 ≤ c) (h2 : c ≤ 9223372036854775807) :
    Calls Tryd.prog 10 #[.int .i64 c] w fun r w' => r = .returned (.int .i64 (28 + pickV c 997)) ∧ w = w' := by
  obtain ⟨p1, p2⟩ := pickV_bd c 997 (by omega)
  go_enter Tryd.func10, Tryd.ntmps10
  go_wp2_with fail
  refine (pick_any c 997 _ h1 h2 (by omega) (by omega)).mono ?_
  rintro r w1 ⟨rfl, rfl⟩
  go_wp2_with fail
  go_ret
  exact ⟨rfl, rfl⟩
def sn0 : Cg := cg0 100
theorem sn0_ok : sn0.Ok := cg0_ok (by decide) (by decide)
theorem sn0_win : sn0.win = 200 := by decide +kernel
def sn1 : Cg := sn0.acked 100 100
theorem sn1_ok : sn1.Ok := Cg.acked_ok sn0_ok _ _
theorem sn1_win : sn1.win = 300 := by decide +kernel
def sn2 : Cg := sn1.acked 300 400
theorem sn2_ok : sn2.Ok := Cg.acked_ok sn1_ok _ _
theorem sn2_win : sn2.win = 400 := by decide +kernel
theorem sn2_on : sn2.on = false := by decide +kernel
def sn3 : Cg := sn2.lost 400 800
theorem sn3_ok : sn3.Ok := Cg.lost_ok sn2_ok _ (by unfold In64; decide)
theorem sn3_on : sn3.on = true := by decide +kernel
def sn4 : Cg := sn3.lost 400 800
theorem sn4_ok : sn4.Ok := Cg.lost_ok sn3_ok _ (by unfold In64; decide)
theorem sn4_on : sn4.on = true := by decide +kernel
theorem sn4_win : sn4.win = 200 := by decide +kernel
def sn5 : Cg := sn4.acked 100 500
theorem sn5_ok : sn5.Ok := Cg.acked_ok sn4_ok _ _
theorem sn5_on : sn5.on = true := by decide +kernel
def sn6 : Cg := sn5.acked 300 800
theorem sn6_ok : sn6.Ok := Cg.acked_ok sn5_ok _ _
theorem sn6_on : sn6.on = false := by decide +kernel
def sn7 : Cg := sn6.acked 100 900
theorem sn7_ok : sn7.Ok := Cg.acked_ok sn6_ok _ _
theorem sn7_win : sn7.win = 250 := by decide +kernel
def sn8 : Cg := sn7.timeout 1000
theorem sn8_ok : sn8.Ok := Cg.timeout_ok sn7_ok _
theorem sn8_win : sn8.win = 100 := by decide +kernel
set_option maxRecDepth 100000 in
set_option maxHeartbeats 4000000 in
theorem sane_any (a : Addr) (w : World) (he : ErrS a w) :
    Calls Tryd.prog 9 #[] w fun r w' => r = .returned (.bool true) ∧ Below w.heap.size w w' := by
  have hg : 0 < w.heap.size := he.2
  have HG := Lib.hid hg
  go_enter Tryd.func9, Tryd.ntmps9
  go_wp2_with fail
  refine (new_good 100 a _ he (by omega) (by omega)).mono ?_
  rintro e x0 ⟨rfl, h, hB⟩
  replace h : Cng w.heap.size sn0 x0 := h
  replace he := he.below hB HG.out
  clear hg
  obtain ⟨B, hBB⟩ : ∃ B, w.heap.size = B := ⟨_, rfl⟩
  rw [hBB] at h ⊢
  have hN : w.heap.size ≤ B := by omega
  clear hBB
  go_wp2_with fail
  refine (new_bad 27 a _ he (Or.inl (by omega))).mono ?_
  rintro e y0 ⟨rfl, hb⟩
  replace hB := below_val hB hB.size hb
  replace h := h.below hb
  clear hb he
  go_wp2_with fail
  refine (window_any B sn0 _ h).mono ?_
  rintro e x1 ⟨rfl, rfl⟩
  rw [sn0_win]
  go_wp2_with fail
  refine (acked_any B sn0 100 100 sn0_ok _ h).mono ?_
  rintro e x2 ⟨rfl, hT, hc⟩
  replace hB := below_chg hB hN h.lt hc
  replace h : Cng B sn1 x2 := hT
  clear hc hT
  go_wp2_with fail
  refine (window_any B sn1 _ h).mono ?_
  rintro e x3 ⟨rfl, rfl⟩
  rw [sn1_win]
  go_wp2_with fail
  refine (acked_any B sn1 300 400 sn1_ok _ h).mono ?_
  rintro e x4 ⟨rfl, hT, hc⟩
  replace hB := below_chg hB hN h.lt hc
  replace h : Cng B sn2 x4 := hT
  clear hc hT
  go_wp2_with fail
  refine (window_any B sn2 _ h).mono ?_
  rintro e x5 ⟨rfl, rfl⟩
  rw [sn2_win]
  go_wp2_with fail
  refine (lost_any B sn2 400 800 (by unfold In64; decide) sn2_ok _ h).mono ?_
  rintro e x6 ⟨rfl, hT, hc⟩
  replace hB := below_chg hB hN h.lt hc
  replace h : Cng B sn3 x6 := hT
  clear hc hT
  rw [sn2_on]
  go_wp2_with fail
  refine (lost_any B sn3 400 800 (by unfold In64; decide) sn3_ok _ h).mono ?_
  rintro e x7 ⟨rfl, hT, hc⟩
  replace hB := below_chg hB hN h.lt hc
  replace h : Cng B sn4 x7 := hT
  clear hc hT
  rw [sn3_on]
  go_wp2_with fail
  refine (recovering_any B sn4 sn4_ok _ h).mono ?_
  rintro e x8 ⟨rfl, rfl⟩
  rw [sn4_on]
  go_wp2_with fail
  refine (window_any B sn4 _ h).mono ?_
  rintro e x9 ⟨rfl, rfl⟩
  rw [sn4_win]
  go_wp2_with fail
  refine (acked_any B sn4 100 500 sn4_ok _ h).mono ?_
  rintro e x10 ⟨rfl, hT, hc⟩
  replace hB := below_chg hB hN h.lt hc
  replace h : Cng B sn5 x10 := hT
  clear hc hT
  go_wp2_with fail
  refine (recovering_any B sn5 sn5_ok _ h).mono ?_
  rintro e x11 ⟨rfl, rfl⟩
  rw [sn5_on]
  go_wp2_with fail
  refine (acked_any B sn5 300 800 sn5_ok _ h).mono ?_
  rintro e x12 ⟨rfl, hT, hc⟩
  replace hB := below_chg hB hN h.lt hc
  replace h : Cng B sn6 x12 := hT
  clear hc hT
  go_wp2_with fail
  refine (recovering_any B sn6 sn6_ok _ h).mono ?_
  rintro e x13 ⟨rfl, rfl⟩
  rw [sn6_on]
  go_wp2_with fail
  refine (acked_any B sn6 100 900 sn6_ok _ h).mono ?_
  rintro e x14 ⟨rfl, hT, hc⟩
  replace hB := below_chg hB hN h.lt hc
  replace h : Cng B sn7 x14 := hT
  clear hc hT
  go_wp2_with fail
  refine (window_any B sn7 _ h).mono ?_
  rintro e x15 ⟨rfl, rfl⟩
  rw [sn7_win]
  go_wp2_with fail
  refine (timeout_any B sn7 1000 1900 (by unfold In64; decide) sn7_ok _ h).mono ?_
  rintro e x16 ⟨rfl, hT, hc⟩
  replace hB := below_chg hB hN h.lt hc
  replace h : Cng B sn8 x16 := hT
  clear hc hT
  go_wp2_with fail
  refine (window_any B sn8 _ h).mono ?_
  rintro e x17 ⟨rfl, rfl⟩
  rw [sn8_win]
  go_wp2_with fail
  go_ret
  exact ⟨rfl, hB⟩
end Go.Proofs.YtnjfpkjfacopkaaDoor
