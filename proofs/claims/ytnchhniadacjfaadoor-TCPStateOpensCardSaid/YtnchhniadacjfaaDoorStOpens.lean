/- TCPStateOpens: its walk. -/
import Derived.Test.YtnchhniadacjfaaDoorStSanity
namespace Go.Proofs.YtnchhniadacjfaaDoor
open Go.RowKit
set_option maxHeartbeats 1000000 in
theorem opens_ff (w : World) (hT0 : Triples w) (hN : Names w) :
    Calls Tryd.prog 7 #[.bool false, .bool false] w fun r w' => r = .returned (.bool true) ∧ Below w.heap.size w w' := by
  go_enter Tryd.func7, Tryd.ntmps7
  go_wp2_with fail
  refine (sanity_any _ hT0 hN).mono ?_
  rintro r w0 ⟨rfl, hB0⟩
  replace hT0 := hT0.below hB0
  go_wp2_with fail
  refine (step_any 0 1 _ hT0).mono ?_
  rintro r w1 ⟨rfl, b1⟩
  have hT1 := hT0.below b1
  have hB1 := below_tr hB0 b1
  clear b1
  rw [show stN 0 1 = 1 by decide +kernel, show stE 0 1 = 0 by decide +kernel]
  go_wp2_with fail
  refine (step_any 0 2 _ hT1).mono ?_
  rintro r w2 ⟨rfl, b2⟩
  have hT2 := hT1.below b2
  have hB2 := below_tr hB1 b2
  clear b2
  rw [show stN 0 2 = 2 by decide +kernel, show stE 0 2 = 0 by decide +kernel]
  go_wp2_with fail
  refine (step_any 1 3 _ hT2).mono ?_
  rintro r w3 ⟨rfl, b3⟩
  have hT3 := hT2.below b3
  have hB3 := below_tr hB2 b3
  clear b3
  rw [show stN 1 3 = 3 by decide +kernel, show stE 1 3 = 0 by decide +kernel]
  go_wp2_with fail
  refine (step_any 2 4 _ hT3).mono ?_
  rintro r w4 ⟨rfl, b4⟩
  have hT4 := hT3.below b4
  have hB4 := below_tr hB3 b4
  clear b4
  rw [show stN 2 4 = 3 by decide +kernel, show stE 2 4 = 0 by decide +kernel]
  go_wp2_with fail
  go_ret
  exact ⟨rfl, hB4⟩
set_option maxHeartbeats 1000000 in
theorem opens_ft (w : World) (hT0 : Triples w) (hN : Names w) :
    Calls Tryd.prog 7 #[.bool false, .bool true] w fun r w' => r = .returned (.bool true) ∧ Below w.heap.size w w' := by
  go_enter Tryd.func7, Tryd.ntmps7
  go_wp2_with fail
  refine (sanity_any _ hT0 hN).mono ?_
  rintro r w0 ⟨rfl, hB0⟩
  replace hT0 := hT0.below hB0
  go_wp2_with fail
  refine (step_any 0 1 _ hT0).mono ?_
  rintro r w1 ⟨rfl, b1⟩
  have hT1 := hT0.below b1
  have hB1 := below_tr hB0 b1
  clear b1
  rw [show stN 0 1 = 1 by decide +kernel, show stE 0 1 = 0 by decide +kernel]
  go_wp2_with fail
  refine (step_any 0 2 _ hT1).mono ?_
  rintro r w2 ⟨rfl, b2⟩
  have hT2 := hT1.below b2
  have hB2 := below_tr hB1 b2
  clear b2
  rw [show stN 0 2 = 2 by decide +kernel, show stE 0 2 = 0 by decide +kernel]
  go_wp2_with fail
  refine (step_any 1 3 _ hT2).mono ?_
  rintro r w3 ⟨rfl, b3⟩
  have hT3 := hT2.below b3
  have hB3 := below_tr hB2 b3
  clear b3
  rw [show stN 1 3 = 3 by decide +kernel, show stE 1 3 = 0 by decide +kernel]
  go_wp2_with fail
  refine (step_any 2 4 _ hT3).mono ?_
  rintro r w4 ⟨rfl, b4⟩
  have hT4 := hT3.below b4
  have hB4 := below_tr hB3 b4
  clear b4
  rw [show stN 2 4 = 3 by decide +kernel, show stE 2 4 = 0 by decide +kernel]
  go_wp2_with fail
  go_ret
  exact ⟨rfl, hB4⟩
set_option maxHeartbeats 1000000 in
theorem opens_tf (w : World) (hT0 : Triples w) (hN : Names w) :
    Calls Tryd.prog 7 #[.bool true, .bool false] w fun r w' => r = .returned (.bool true) ∧ Below w.heap.size w w' := by
  go_enter Tryd.func7, Tryd.ntmps7
  go_wp2_with fail
  refine (sanity_any _ hT0 hN).mono ?_
  rintro r w0 ⟨rfl, hB0⟩
  replace hT0 := hT0.below hB0
  go_wp2_with fail
  refine (step_any 0 1 _ hT0).mono ?_
  rintro r w1 ⟨rfl, b1⟩
  have hT1 := hT0.below b1
  have hB1 := below_tr hB0 b1
  clear b1
  rw [show stN 0 1 = 1 by decide +kernel, show stE 0 1 = 0 by decide +kernel]
  go_wp2_with fail
  refine (step_any 0 1 _ hT1).mono ?_
  rintro r w2 ⟨rfl, b2⟩
  have hT2 := hT1.below b2
  have hB2 := below_tr hB1 b2
  clear b2
  rw [show stN 0 1 = 1 by decide +kernel, show stE 0 1 = 0 by decide +kernel]
  go_wp2_with fail
  refine (step_any 1 2 _ hT2).mono ?_
  rintro r w3 ⟨rfl, b3⟩
  have hT3 := hT2.below b3
  have hB3 := below_tr hB2 b3
  clear b3
  rw [show stN 1 2 = 2 by decide +kernel, show stE 1 2 = 0 by decide +kernel]
  go_wp2_with fail
  refine (step_any 1 2 _ hT3).mono ?_
  rintro r w4 ⟨rfl, b4⟩
  have hT4 := hT3.below b4
  have hB4 := below_tr hB3 b4
  clear b4
  rw [show stN 1 2 = 2 by decide +kernel, show stE 1 2 = 0 by decide +kernel]
  go_wp2_with fail
  refine (step_any 2 4 _ hT4).mono ?_
  rintro r w5 ⟨rfl, b5⟩
  have hT5 := hT4.below b5
  have hB5 := below_tr hB4 b5
  clear b5
  rw [show stN 2 4 = 3 by decide +kernel, show stE 2 4 = 0 by decide +kernel]
  go_wp2_with fail
  refine (step_any 2 4 _ hT5).mono ?_
  rintro r w6 ⟨rfl, b6⟩
  have hT6 := hT5.below b6
  have hB6 := below_tr hB5 b6
  clear b6
  rw [show stN 2 4 = 3 by decide +kernel, show stE 2 4 = 0 by decide +kernel]
  go_wp2_with fail
  go_ret
  exact ⟨rfl, hB6⟩
set_option maxHeartbeats 1000000 in
theorem opens_tt (w : World) (hT0 : Triples w) (hN : Names w) :
    Calls Tryd.prog 7 #[.bool true, .bool true] w fun r w' => r = .returned (.bool true) ∧ Below w.heap.size w w' := by
  go_enter Tryd.func7, Tryd.ntmps7
  go_wp2_with fail
  refine (sanity_any _ hT0 hN).mono ?_
  rintro r w0 ⟨rfl, hB0⟩
  replace hT0 := hT0.below hB0
  go_wp2_with fail
  refine (step_any 0 1 _ hT0).mono ?_
  rintro r w1 ⟨rfl, b1⟩
  have hT1 := hT0.below b1
  have hB1 := below_tr hB0 b1
  clear b1
  rw [show stN 0 1 = 1 by decide +kernel, show stE 0 1 = 0 by decide +kernel]
  go_wp2_with fail
  refine (step_any 0 1 _ hT1).mono ?_
  rintro r w2 ⟨rfl, b2⟩
  have hT2 := hT1.below b2
  have hB2 := below_tr hB1 b2
  clear b2
  rw [show stN 0 1 = 1 by decide +kernel, show stE 0 1 = 0 by decide +kernel]
  go_wp2_with fail
  refine (step_any 1 2 _ hT2).mono ?_
  rintro r w3 ⟨rfl, b3⟩
  have hT3 := hT2.below b3
  have hB3 := below_tr hB2 b3
  clear b3
  rw [show stN 1 2 = 2 by decide +kernel, show stE 1 2 = 0 by decide +kernel]
  go_wp2_with fail
  refine (step_any 1 2 _ hT3).mono ?_
  rintro r w4 ⟨rfl, b4⟩
  have hT4 := hT3.below b4
  have hB4 := below_tr hB3 b4
  clear b4
  rw [show stN 1 2 = 2 by decide +kernel, show stE 1 2 = 0 by decide +kernel]
  go_wp2_with fail
  refine (step_any 2 2 _ hT4).mono ?_
  rintro r w5 ⟨rfl, b5⟩
  have hT5 := hT4.below b5
  have hB5 := below_tr hB4 b5
  clear b5
  rw [show stN 2 2 = 0 by decide +kernel, show stE 2 2 = 170 by decide +kernel]
  go_wp2_with fail
  refine (step_any 2 4 _ hT5).mono ?_
  rintro r w6 ⟨rfl, b6⟩
  have hT6 := hT5.below b6
  have hB6 := below_tr hB5 b6
  clear b6
  rw [show stN 2 4 = 3 by decide +kernel, show stE 2 4 = 0 by decide +kernel]
  go_wp2_with fail
  refine (step_any 2 4 _ hT6).mono ?_
  rintro r w7 ⟨rfl, b7⟩
  have hT7 := hT6.below b7
  have hB7 := below_tr hB6 b7
  clear b7
  rw [show stN 2 4 = 3 by decide +kernel, show stE 2 4 = 0 by decide +kernel]
  go_wp2_with fail
  go_ret
  exact ⟨rfl, hB7⟩
theorem walk_TCPStateOpens (w : World) (both twice : Bool) (h : Triples w ∧ Names w) :
    Calls Tryd.prog 7 #[.bool both, .bool twice] w fun r w' => r = .returned (.bool true) ∧ Below w.heap.size w w' := by
  cases both <;> cases twice
  · exact opens_ff w h.1 h.2
  · exact opens_ft w h.1 h.2
  · exact opens_tf w h.1 h.2
  · exact opens_tt w h.1 h.2
end Go.Proofs.YtnchhniadacjfaaDoor
