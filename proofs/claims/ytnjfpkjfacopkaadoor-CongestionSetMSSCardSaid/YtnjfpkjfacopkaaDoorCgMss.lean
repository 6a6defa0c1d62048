/- CongestionSetMSS: its walk. -/
import Derived.Test.YtnjfpkjfacopkaaDoorCgSane
namespace Go.Proofs.YtnjfpkjfacopkaaDoor
open Go.RowKit
theorem set_min {x y : Int} (h1 : 28 ≤ y) (h2 : y ≤ 1024) : (cg0 x).setMSS y = { cg0 x with mss := min x y } := by
  unfold Cg.setMSS
  by_cases c : y < x
  · rw [if_pos ⟨h1, h2, c⟩, show min x y = y by omega]
  · rw [if_neg (fun h => c h.2.2), show min x y = x by omega]; rfl
theorem set_off {c : Cg} {y : Int} (h : y < 28 ∨ 1024 < y) : c.setMSS y = c := by unfold Cg.setMSS; rw [if_neg (by omega)]
theorem set_grow {x y : Int} (h1 : 28 ≤ x) (h2 : x ≤ 1024) : ({ cg0 x with mss := min x y } : Cg).acked 5000 5000 = { cg0 x with mss := min x y, win := 2 * x + min x y } := by
  unfold Cg.acked cg0
  dsimp only
  rw [if_neg (by decide), if_neg (by omega), if_pos (by omega), show min (2 * x + min 5000 (min x y)) 65535 = 2 * x + min x y by omega]
set_option maxRecDepth 100000 in
set_option maxHeartbeats 4000000 in
theorem walk_CongestionSetMSS (w : World) (x : Int) (wx : (Lit.int .i64 x).wf = true) (y : Int) (wy : (Lit.int .i64 y).wf = true) (hL : ∃ a, ErrS a w) :
    Calls Tryd.prog 8 #[.int .i64 x, .int .i64 y] w fun r w' => r = .returned (.bool true) ∧ Below w.heap.size w w' := by
  obtain ⟨a, he⟩ := hL
  obtain ⟨m1, m2⟩ := bounds_i64 wx
  obtain ⟨f1, f2⟩ := bounds_i64 wy
  have hg : 0 < w.heap.size := he.2
  have HG := Lib.hid hg
  obtain ⟨p1, p2⟩ := pickV_bd x 997 (by omega)
  obtain ⟨q1, q2⟩ := pickV_bd y 997 (by omega)
  clear wx wy hg
  go_enter Tryd.func8, Tryd.ntmps8
  go_wp2_with fail
  refine (sane_any a _ he).mono ?_
  rintro e w1 ⟨rfl, hB⟩
  replace he := he.below hB HG.out
  go_wp2_with fail
  refine (size_any x _ m1 m2).mono ?_
  rintro e w2 ⟨rfl, rfl⟩
  generalize pickV x 997 = pm at *
  go_wp2_with fail
  refine (size_any y _ f1 f2).mono ?_
  rintro e w2 ⟨rfl, rfl⟩
  generalize pickV y 997 = pf at *
  obtain ⟨ma, hma⟩ : ∃ ms : Int, 28 + pm = ms := ⟨_, rfl⟩
  obtain ⟨mb, hmb⟩ : ∃ ms : Int, 28 + pf = ms := ⟨_, rfl⟩
  rw [hma, hmb]
  have s1 : 28 ≤ ma := by omega
  have s2 : ma ≤ 1024 := by omega
  have s3 : 28 ≤ mb := by omega
  have s4 : mb ≤ 1024 := by omega
  clear hma hmb p1 p2 q1 q2
  go_wp2_with fail
  refine (new_good ma a _ he s1 s2).mono ?_
  rintro e w3 ⟨rfl, h, hb⟩
  have hN : w.heap.size ≤ w1.heap.size := hB.size
  have hBg : 0 < w1.heap.size := Nat.lt_of_lt_of_le HG.out hN
  replace he := he.below hb hBg
  replace hB := below_val hB hB.size hb
  have HNE := Lib.hid (show ∀ B, w.heap.size ≤ B → 0 ≠ B by have := HG.out; intro B hB; omega)
  clear hb hBg
  generalize w1.heap.size = B at *
  have ok0 := Cg.setMSS_ok (cg0_ok s1 s2) mb
  have HS := Lib.hid (set_min (x := ma) s3 s4)
  have HA := Lib.hid (set_grow (y := mb) s1 s2)
  rw [HS.out] at ok0
  have hmn : 28 ≤ min ma mb := by omega
  have hmx : min ma mb ≤ 1024 := by omega
  go_wp2_with fail
  refine (setMSS_any B _ mb a _ he h).mono ?_
  rintro e w4 ⟨rfl, hT, hc⟩
  rw [HS.out] at hT
  replace he := he.chg hc (HNE.out B hN)
  replace hB := below_chg hB hN h.lt hc
  clear hc h
  go_wp2_with fail
  refine (setMSS_any B _ 27 a _ he hT).mono ?_
  rintro e w5 ⟨rfl, hT2, hc⟩
  rw [set_off (Or.inl (by decide))] at hT2
  replace he := he.chg hc (HNE.out B hN)
  replace hB := below_chg hB hN hT.lt hc
  clear hc hT
  go_wp2_with fail
  refine (setMSS_any B _ 1025 a _ he hT2).mono ?_
  rintro e w6 ⟨rfl, hT3, hc⟩
  rw [set_off (Or.inr (by decide))] at hT3
  replace hB := below_chg hB hN hT2.lt hc
  clear hc hT2 he
  go_wp2_with fail
  refine (window_any B _ _ hT3).mono ?_
  rintro e w7 ⟨rfl, rfl⟩
  go_wp2_with fail
  refine (acked_any B _ 5000 5000 ok0 _ hT3).mono ?_
  rintro e w8 ⟨rfl, hT4, hc⟩
  rw [HA.out] at hT4
  replace hB := below_chg hB hN hT3.lt hc
  clear hc hT3
  have HX := Lib.hid (show (cg0 ma).win = 2 * ma from rfl)
  by_cases hab : mb < ma
  · have HM := Lib.hid (show min ma mb = mb by omega)
    rw [HM.out] at hT4
    dsimp only [cg0]
    go_wp2_with fail
    refine (window_any B _ _ hT4).mono ?_
    rintro e w9 ⟨rfl, rfl⟩
    go_wp2_with fail
    go_ret
    exact ⟨rfl, hB⟩
  · have HM := Lib.hid (show min ma mb = ma by omega)
    rw [HM.out] at hT4
    dsimp only [cg0]
    go_wp2_with fail
    refine (window_any B _ _ hT4).mono ?_
    rintro e w9 ⟨rfl, rfl⟩
    go_wp2_with fail
    go_ret
    exact ⟨rfl, hB⟩
end Go.Proofs.YtnjfpkjfacopkaaDoor
