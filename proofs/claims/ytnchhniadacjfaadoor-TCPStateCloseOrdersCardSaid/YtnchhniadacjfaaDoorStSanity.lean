/- sanity: it returns true. -/
import Derived.Test.YtnchhniadacjfaaDoorStBools
namespace Go.Proofs.YtnchhniadacjfaaDoor
open Go.RowKit
set_option maxHeartbeats 1000000 in
set_option maxRecDepth 100000 in
theorem sanity_any (w0 : World) (hT0 : Triples w0) (hN0 : Names w0) :
    Calls Tryd.prog 8 #[] w0 fun r w' => r = .returned (.bool true) ∧ Below w0.heap.size w0 w' := by
  go_enter Tryd.func8, Tryd.ntmps8
  go_wp2_with fail
  refine (step_any 3 5 _ hT0).mono ?_
  rintro r w1 ⟨rfl, b1⟩
  rw [show stN 3 5 = 4 by decide +kernel, show stE 3 5 = 0 by decide +kernel]
  have hT1 := hT0.below b1
  have hN1 := hN0.below b1
  go_wp2_with fail
  refine (step_any 4 6 _ hT1).mono ?_
  rintro r w2 ⟨rfl, b2⟩
  rw [show stN 4 6 = 7 by decide +kernel, show stE 4 6 = 0 by decide +kernel]
  have hT2 := hT1.below b2
  have hN2 := hN1.below b2
  go_wp2_with fail
  refine (step_any 7 7 _ hT2).mono ?_
  rintro r w3 ⟨rfl, b3⟩
  rw [show stN 7 7 = 9 by decide +kernel, show stE 7 7 = 0 by decide +kernel]
  have hT3 := hT2.below b3
  have hN3 := hN2.below b3
  go_wp2_with fail
  refine (step_any 9 9 _ hT3).mono ?_
  rintro r w4 ⟨rfl, b4⟩
  rw [show stN 9 9 = 0 by decide +kernel, show stE 9 9 = 0 by decide +kernel]
  have hT4 := hT3.below b4
  have hN4 := hN3.below b4
  go_wp2_with fail
  refine (step_any 0 8 _ hT4).mono ?_
  rintro r w5 ⟨rfl, b5⟩
  rw [show stN 0 8 = 0 by decide +kernel, show stE 0 8 = 170 by decide +kernel]
  have hT5 := hT4.below b5
  have hN5 := hN4.below b5
  go_wp2_with fail
  refine (step_any 10 8 _ hT5).mono ?_
  rintro r w6 ⟨rfl, b6⟩
  rw [show stN 10 8 = 0 by decide +kernel, show stE 10 8 = 170 by decide +kernel]
  have hT6 := hT5.below b6
  have hN6 := hN5.below b6
  go_wp2_with fail
  refine (step_any 0 1 _ hT6).mono ?_
  rintro r w7 ⟨rfl, b7⟩
  rw [show stN 0 1 = 1 by decide +kernel, show stE 0 1 = 0 by decide +kernel]
  have hT7 := hT6.below b7
  have hN7 := hN6.below b7
  have hB := below_tr b1 (below_tr b2 (below_tr b3 (below_tr b4 (below_tr b5 (below_tr b6 b7)))))
  clear b1 b2 b3 b4 b5 b6 b7 hT1 hT2 hT3 hT4 hT5 hT6 hT7 hN1 hN2 hN3 hN4 hN5 hN6
  go_wp2_with fail
  refine (string_any 7 _ hN7).mono ?_
  rintro r w' ⟨rfl, rfl⟩
  rw [show nameB 7 = ⟨#[99, 108, 111, 115, 105, 110, 103]⟩ by kernel_rfl]
  go_wp2_with fail
  refine (string_any 10 _ hN7).mono ?_
  rintro r w' ⟨rfl, rfl⟩
  rw [show nameB 10 = ⟨#[]⟩ by kernel_rfl]
  go_wp2_with fail
  refine (canSend_any 6 _).mono ?_
  rintro r w' ⟨rfl, rfl⟩
  rw [show canS 6 = true by decide]
  go_wp2_with fail
  refine (canReceive_any 6 _).mono ?_
  rintro r w' ⟨rfl, rfl⟩
  rw [show canR 6 = false by decide]
  go_wp2_with fail
  refine (synchronized_any 9 _).mono ?_
  rintro r w' ⟨rfl, rfl⟩
  rw [show synced 9 = true by decide]
  go_wp2_with fail
  refine (synchronized_any 0 _).mono ?_
  rintro r w' ⟨rfl, rfl⟩
  rw [show synced 0 = false by decide]
  go_wp2_with fail
  go_ret
  exact ⟨rfl, hB⟩
end Go.Proofs.YtnchhniadacjfaaDoor
