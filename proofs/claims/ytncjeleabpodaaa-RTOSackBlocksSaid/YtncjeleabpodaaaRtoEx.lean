/- The chapter's examples: they hold. -/
import Derived.Test.YtncjeleabpodaaaRtoAck
namespace Go.Proofs.Ytncjeleabpodaaa
open Go.RowKit
theorem Tim.alloc_eq {B : Nat} {m : Tm} {w w' : World} {o : Obj} (h : Tim B m w) (e : w' = w.alloc o) : Tim B m w' := by rw [e]; exact h.alloc o
theorem Tim.new_eq {w w' : World} {t : TypeId} (e : w' = w.alloc (.cells (tmCells tm0) t)) : Tim w.heap.size tm0 w' := by rw [e]; exact Tim.new w t
theorem below_alloc_eq {N : Nat} {w0 w w' : World} {o : Obj} (h : Below N w0 w) (hN : N ≤ w.heap.size) (e : w' = w.alloc o) : Below N w0 w' := by rw [e]; exact h.trans ((Below.refl N w).alloc hN o)
theorem below_chg {N : Nat} {w0 w w' : World} {B : Nat} (h : Below N w0 w) (hB : N ≤ B) (hl : B < w.heap.size) (c : Chg B w w') : Below N w0 w' := h.trans (c.below hB hl)
theorem below_val {N : Nat} {w0 w w' : World} (h : Below N w0 w) (hN : N ≤ w.heap.size) (c : Below w.heap.size w w') : Below N w0 w' := h.trans (c.mono hN)
def exB1 : Tm := tm0.sent 0 5
theorem exB1_fit : exB1.Fit := Tm.sent_fit tm0_fit _ _ (by unfold In64; decide)
def exB2 : Tm := exB1.acked 8 5
theorem exB2_fit : exB2.Fit := Tm.acked_fit exB1_fit _ _
def exB3 : Tm := exB2.backoff
theorem exB3_fit : exB3.Fit := Tm.backoff_fit exB2_fit
def exB4 : Tm := exB3.backoff
theorem exB4_fit : exB4.Fit := Tm.backoff_fit exB3_fit
def exC1 : Tm := tm0.sent 0 5
theorem exC1_fit : exC1.Fit := Tm.sent_fit tm0_fit _ _ (by unfold In64; decide)
def exC2 : Tm := exC1.retr
theorem exC2_fit : exC2.Fit := Tm.retr_fit exC1_fit
def exC3 : Tm := exC2.acked 8 5
theorem exC3_fit : exC3.Fit := Tm.acked_fit exC2_fit _ _
def exD1 : Tm := tm0.sent 3 5
theorem exD1_fit : exD1.Fit := Tm.sent_fit tm0_fit _ _ (by unfold In64; decide)
def exD2 : Tm := exD1.sent 4 9
theorem exD2_fit : exD2.Fit := Tm.sent_fit exD1_fit _ _ (by unfold In64; decide)
def exD3 : Tm := exD2.acked 4 4
theorem exD3_fit : exD3.Fit := Tm.acked_fit exD2_fit _ _
def exD4 : Tm := exD3.acked 5 6
theorem exD4_fit : exD4.Fit := Tm.acked_fit exD3_fit _ _
theorem exB2_v : exB2.value = 24 := by decide +kernel
theorem exD3_v : exD3.value = 12 := by decide +kernel
theorem tm0_v : tm0.value = 12 := by decide +kernel
theorem exB4_v : exB4.value = 96 := by decide +kernel
theorem exC3_v : exC3.value = 12 := by decide +kernel
theorem exD4_v : exD4.value = 6 := by decide +kernel
set_option maxHeartbeats 6400000 in
theorem examples_n (N : Nat) (w : World) (hN : N ≤ w.heap.size) : Calls Try.prog 11 #[] w fun e w' => e = .returned (.bool true) ∧ Below N w w' := by
  have hB : Below N w w := Below.refl _ _
  go_enter Try.func11, Try.ntmps11
  go_wp2_with fail
  refine (new_any _).mono ?_
  rintro e w1 ⟨rfl, hw⟩
  have ha := Tim.new_eq hw
  have hNa : N ≤ w.heap.size := Nat.le_trans hN hB.size
  replace hB := below_alloc_eq hB hNa hw
  clear hw
  generalize w.heap.size = Ba at ha hNa  ⊢
  have la := ha.lt
  go_wp2_with fail
  refine (new_any _).mono ?_
  rintro e w2 ⟨rfl, hw⟩
  have hb := Tim.new_eq hw
  replace ha := ha.alloc_eq hw
  have nab : Ba ≠ w1.heap.size := by have := la; omega
  have hNb : N ≤ w1.heap.size := Nat.le_trans hN hB.size
  replace hB := below_alloc_eq hB hNb hw
  clear hw
  clear la
  generalize w1.heap.size = Bb at hb hNb nab ⊢
  have la := ha.lt
  have lb := hb.lt
  go_wp2_with fail
  refine (sent_any Bb tm0 0 5 _ hb).mono ?_
  rintro e w3 ⟨rfl, hT, hcg⟩
  replace ha := ha.other hcg nab
  replace hb : Tim Bb exB1 w3 := hT
  replace hB := below_chg hB hNb lb hcg
  replace la := ha.lt
  replace lb := hb.lt
  clear hcg hT
  go_wp2_with fail
  refine (acked_any Bb exB1 8 5 (by unfold In64; decide) exB1_fit _ hb).mono ?_
  rintro e w4 ⟨rfl, hT, hcg⟩
  replace ha := ha.other hcg nab
  replace hb : Tim Bb exB2 w4 := hT
  replace hB := below_chg hB hNb lb hcg
  replace la := ha.lt
  replace lb := hb.lt
  clear hcg hT
  go_wp2_with fail
  refine (value_any Bb exB2 exB2_fit.1 _ hb).mono ?_
  rintro e w5 ⟨rfl, hbw⟩
  replace ha := ha.below hbw
  replace hb := hb.below hbw
  replace hB := below_val hB (Nat.le_trans hN hB.size) hbw
  replace la := ha.lt
  replace lb := hb.lt
  clear hbw
  rw [exB2_v]
  go_wp2_with fail
  refine (backoff_any Bb exB2 exB2_fit.1 _ hb).mono ?_
  rintro e w6 ⟨rfl, hT, hcg⟩
  replace ha := ha.other hcg nab
  replace hb : Tim Bb exB3 w6 := hT
  replace hB := below_chg hB hNb lb hcg
  replace la := ha.lt
  replace lb := hb.lt
  clear hcg hT
  go_wp2_with fail
  refine (backoff_any Bb exB3 exB3_fit.1 _ hb).mono ?_
  rintro e w7 ⟨rfl, hT, hcg⟩
  replace ha := ha.other hcg nab
  replace hb : Tim Bb exB4 w7 := hT
  replace hB := below_chg hB hNb lb hcg
  replace la := ha.lt
  replace lb := hb.lt
  clear hcg hT
  go_wp2_with fail
  refine (new_any _).mono ?_
  rintro e w8 ⟨rfl, hw⟩
  have hc := Tim.new_eq hw
  replace ha := ha.alloc_eq hw
  have nac : Ba ≠ w7.heap.size := by have := la; omega
  replace hb := hb.alloc_eq hw
  have nbc : Bb ≠ w7.heap.size := by have := lb; omega
  have hNc : N ≤ w7.heap.size := Nat.le_trans hN hB.size
  replace hB := below_alloc_eq hB hNc hw
  clear hw
  clear la
  clear lb
  generalize w7.heap.size = Bc at hc hNc nac nbc ⊢
  have la := ha.lt
  have lb := hb.lt
  have lc := hc.lt
  go_wp2_with fail
  refine (sent_any Bc tm0 0 5 _ hc).mono ?_
  rintro e w9 ⟨rfl, hT, hcg⟩
  replace ha := ha.other hcg nac
  replace hb := hb.other hcg nbc
  replace hc : Tim Bc exC1 w9 := hT
  replace hB := below_chg hB hNc lc hcg
  replace la := ha.lt
  replace lb := hb.lt
  replace lc := hc.lt
  clear hcg hT
  go_wp2_with fail
  refine (retr_any Bc exC1 _ hc).mono ?_
  rintro e w10 ⟨rfl, hT, hcg⟩
  replace ha := ha.other hcg nac
  replace hb := hb.other hcg nbc
  replace hc : Tim Bc exC2 w10 := hT
  replace hB := below_chg hB hNc lc hcg
  replace la := ha.lt
  replace lb := hb.lt
  replace lc := hc.lt
  clear hcg hT
  go_wp2_with fail
  refine (acked_any Bc exC2 8 5 (by unfold In64; decide) exC2_fit _ hc).mono ?_
  rintro e w11 ⟨rfl, hT, hcg⟩
  replace ha := ha.other hcg nac
  replace hb := hb.other hcg nbc
  replace hc : Tim Bc exC3 w11 := hT
  replace hB := below_chg hB hNc lc hcg
  replace la := ha.lt
  replace lb := hb.lt
  replace lc := hc.lt
  clear hcg hT
  go_wp2_with fail
  refine (new_any _).mono ?_
  rintro e w12 ⟨rfl, hw⟩
  have hd := Tim.new_eq hw
  replace ha := ha.alloc_eq hw
  have nad : Ba ≠ w11.heap.size := by have := la; omega
  replace hb := hb.alloc_eq hw
  have nbd : Bb ≠ w11.heap.size := by have := lb; omega
  replace hc := hc.alloc_eq hw
  have ncd : Bc ≠ w11.heap.size := by have := lc; omega
  have hNd : N ≤ w11.heap.size := Nat.le_trans hN hB.size
  replace hB := below_alloc_eq hB hNd hw
  clear hw
  clear la
  clear lb
  clear lc
  generalize w11.heap.size = Bd at hd hNd nad nbd ncd ⊢
  have la := ha.lt
  have lb := hb.lt
  have lc := hc.lt
  have ld := hd.lt
  go_wp2_with fail
  refine (sent_any Bd tm0 3 5 _ hd).mono ?_
  rintro e w13 ⟨rfl, hT, hcg⟩
  replace ha := ha.other hcg nad
  replace hb := hb.other hcg nbd
  replace hc := hc.other hcg ncd
  replace hd : Tim Bd exD1 w13 := hT
  replace hB := below_chg hB hNd ld hcg
  replace la := ha.lt
  replace lb := hb.lt
  replace lc := hc.lt
  replace ld := hd.lt
  clear hcg hT
  go_wp2_with fail
  refine (sent_any Bd exD1 4 9 _ hd).mono ?_
  rintro e w14 ⟨rfl, hT, hcg⟩
  replace ha := ha.other hcg nad
  replace hb := hb.other hcg nbd
  replace hc := hc.other hcg ncd
  replace hd : Tim Bd exD2 w14 := hT
  replace hB := below_chg hB hNd ld hcg
  replace la := ha.lt
  replace lb := hb.lt
  replace lc := hc.lt
  replace ld := hd.lt
  clear hcg hT
  go_wp2_with fail
  refine (acked_any Bd exD2 4 4 (by unfold In64; decide) exD2_fit _ hd).mono ?_
  rintro e w15 ⟨rfl, hT, hcg⟩
  replace ha := ha.other hcg nad
  replace hb := hb.other hcg nbd
  replace hc := hc.other hcg ncd
  replace hd : Tim Bd exD3 w15 := hT
  replace hB := below_chg hB hNd ld hcg
  replace la := ha.lt
  replace lb := hb.lt
  replace lc := hc.lt
  replace ld := hd.lt
  clear hcg hT
  go_wp2_with fail
  refine (value_any Bd exD3 exD3_fit.1 _ hd).mono ?_
  rintro e w16 ⟨rfl, hbw⟩
  replace ha := ha.below hbw
  replace hb := hb.below hbw
  replace hc := hc.below hbw
  replace hd := hd.below hbw
  replace hB := below_val hB (Nat.le_trans hN hB.size) hbw
  replace la := ha.lt
  replace lb := hb.lt
  replace lc := hc.lt
  replace ld := hd.lt
  clear hbw
  rw [exD3_v]
  go_wp2_with fail
  refine (acked_any Bd exD3 5 6 (by unfold In64; decide) exD3_fit _ hd).mono ?_
  rintro e w17 ⟨rfl, hT, hcg⟩
  replace ha := ha.other hcg nad
  replace hb := hb.other hcg nbd
  replace hc := hc.other hcg ncd
  replace hd : Tim Bd exD4 w17 := hT
  replace hB := below_chg hB hNd ld hcg
  replace la := ha.lt
  replace lb := hb.lt
  replace lc := hc.lt
  replace ld := hd.lt
  clear hcg hT
  go_wp2_with fail
  refine (sent_nil 0 1 _).mono ?_
  rintro e w18 ⟨rfl, rfl⟩
  go_wp2_with fail
  refine (retr_nil _).mono ?_
  rintro e w19 ⟨rfl, rfl⟩
  go_wp2_with fail
  refine (acked_nil 0 1 _).mono ?_
  rintro e w20 ⟨rfl, rfl⟩
  go_wp2_with fail
  refine (backoff_nil _).mono ?_
  rintro e w21 ⟨rfl, rfl⟩
  go_wp2_with fail
  refine (value_any Ba tm0 tm0_fit.1 _ ha).mono ?_
  rintro e w22 ⟨rfl, hbw⟩
  replace ha := ha.below hbw
  replace hb := hb.below hbw
  replace hc := hc.below hbw
  replace hd := hd.below hbw
  replace hB := below_val hB (Nat.le_trans hN hB.size) hbw
  replace la := ha.lt
  replace lb := hb.lt
  replace lc := hc.lt
  replace ld := hd.lt
  clear hbw
  rw [tm0_v]
  go_wp2_with fail
  refine (value_any Bb exB4 exB4_fit.1 _ hb).mono ?_
  rintro e w23 ⟨rfl, hbw⟩
  replace ha := ha.below hbw
  replace hb := hb.below hbw
  replace hc := hc.below hbw
  replace hd := hd.below hbw
  replace hB := below_val hB (Nat.le_trans hN hB.size) hbw
  replace la := ha.lt
  replace lb := hb.lt
  replace lc := hc.lt
  replace ld := hd.lt
  clear hbw
  rw [exB4_v]
  go_wp2_with fail
  refine (value_any Bc exC3 exC3_fit.1 _ hc).mono ?_
  rintro e w24 ⟨rfl, hbw⟩
  replace ha := ha.below hbw
  replace hb := hb.below hbw
  replace hc := hc.below hbw
  replace hd := hd.below hbw
  replace hB := below_val hB (Nat.le_trans hN hB.size) hbw
  replace la := ha.lt
  replace lb := hb.lt
  replace lc := hc.lt
  replace ld := hd.lt
  clear hbw
  rw [exC3_v]
  go_wp2_with fail
  refine (value_any Bd exD4 exD4_fit.1 _ hd).mono ?_
  rintro e w25 ⟨rfl, hbw⟩
  replace ha := ha.below hbw
  replace hb := hb.below hbw
  replace hc := hc.below hbw
  replace hd := hd.below hbw
  replace hB := below_val hB (Nat.le_trans hN hB.size) hbw
  replace la := ha.lt
  replace lb := hb.lt
  replace lc := hc.lt
  replace ld := hd.lt
  clear hbw
  rw [exD4_v]
  go_wp2_with fail
  refine (value_nil _).mono ?_
  rintro e w26 ⟨rfl, rfl⟩
  go_wp2_with fail
  go_ret
  exact ⟨rfl, hB⟩
theorem examples_any (w : World) : Calls Try.prog 11 #[] w fun e w' => e = .returned (.bool true) ∧ Below w.heap.size w w' := examples_n _ w (Nat.le_refl _)
end Go.Proofs.Ytncjeleabpodaaa
