/- The reference's Same and Count. -/
import Derived.Test.YtncjeleabpodaaaRfPl
import Derived.Deep.LoopGhost
import Derived.Deep.CutBlock
import Derived.Deep.DeepCutAuto
namespace Go.Proofs.Ytncjeleabpodaaa
open Go.RowKit Go.Shelf
set_option maxRecDepth 100000 in
set_option maxHeartbeats 2000000 in
theorem rsame_any (w : World) (n₀ : Nat) (a b : Option Addr) (ca cb : Nat) (LA LB : List Sp) (hA : SpAt w n₀ a LA) (hB : SpAt w n₀ b LB) (hn : n₀ ≤ w.heap.size) :
    Calls Try.prog 36 #[.slice a LA.length ca, .slice b LB.length cb] w fun e w' => e = .returned (.bool (decide (LA = LB))) ∧ Below w.heap.size w w' := by
  have HSA := Lib.hid hA
  have HSB := Lib.hid hB
  have hsA := hA.small
  have hsB := hB.small
  clear hA hB
  go_enter Try.func36, Try.ntmps36
  by_cases hl : LA.length = LB.length
  · have hlz : (LA.length : Int) = (LB.length : Int) := by omega
    go_wp2_with fail
    go_loopg [5] LA.length (fun g kv wr => ∃ (k : Nat), kv = .int .i64 (k : Int) ∧ g + k = LA.length ∧ LA.take k = LB.take k ∧ Below w.heap.size w wr)
    case atStart => exact ⟨0, rfl, rfl, rfl, Below.refl _ _⟩
    case round =>
      obtain ⟨k, rfl, hg, htk, hBl⟩ := hrel
      have HT := Lib.hid htk
      have HB := Lib.hid hBl
      clear htk hBl
      by_cases hk : k < LA.length
      · have hkB : k < LB.length := by omega
        obtain ⟨b, off, rfl, hbk, hcs⟩ := HSA.out.cells (by omega)
        obtain ⟨c, oc, rfl, hck, hcc⟩ := HSB.out.cells (by omega)
        obtain ⟨d0, d1⟩ := hcs k hk
        obtain ⟨e0, e1⟩ := hcc k hkB
        clear hcs hcc
        have hkr : (k : Int) < (LA.length : Int) := by omega
        have hkr2 : (k : Int) < (LB.length : Int) := by omega
        have HEA := Lib.hid (List.take_succ_eq_append_getElem hk)
        have HEB := Lib.hid (List.take_succ_eq_append_getElem hkB)
        replace d0 := cell_bel2 d0 (by omega) HB.out
        replace d1 := cell_bel2 d1 (by omega) HB.out
        replace e0 := cell_bel2 e0 (by omega) HB.out
        replace e1 := cell_bel2 e1 (by omega) HB.out
        have HNE := Lib.hid (show LA[k] ≠ LB[k] → LA ≠ LB from fun h e => h (by subst e; rfl))
        generalize LA[k] = x at d0 d1 HEA HNE
        generalize LB[k] = y at e0 e1 HEB HNE
        obtain ⟨x1, x2⟩ := x
        obtain ⟨y1, y2⟩ := y
        dsimp only at d0 d1 e0 e1
        by_cases hxy : x1 = y1
        · obtain rfl := hxy
          by_cases hxy2 : x2 = y2
          · obtain rfl := hxy2
            go_wp2_with fail
            go_quiet (fail)
            go_wp2_with fail
            go_roundg (gk - 1)
            case measure => omega
            case rel => exact ⟨k + 1, by first | go_num | (have hsm := hsA; have e : wrap64 ((k : Int) + 1) = ((k + 1 : Nat) : Int) := (by unfold wrap64; omega); rw [e]), by omega, by rw [HEA.out, HEB.out, HT.out], HB.out.trans (nqBel0 wr nq HB.out.size)⟩
          · go_wp2_with fail
            go_quiet (fail)
            go_wp2_with fail
            go_ret
            refine ⟨?_, HB.out.trans (nqBel0 wr nq HB.out.size)⟩
            rw [show decide (LA = LB) = false by rw [decide_eq_false_iff_not]; exact HNE.out (fun e => by cases e; exact hxy2 rfl)]
            rfl
        · go_wp2_with fail
          go_quiet (fail)
          go_wp2_with fail
          go_ret
          refine ⟨?_, HB.out.trans (nqBel0 wr nq HB.out.size)⟩
          rw [show decide (LA = LB) = false by rw [decide_eq_false_iff_not]; exact HNE.out (fun e => by cases e; exact hxy rfl)]
          rfl
      · go_wp2_with fail
        go_ret
        refine ⟨?_, HB.out⟩
        have h := HT.out
        rw [List.take_of_length_le (by omega), List.take_of_length_le (by omega)] at h
        rw [show decide (LA = LB) = true by rw [decide_eq_true_iff]; exact h]
        rfl
  · have hlz : ¬ (LA.length : Int) = (LB.length : Int) := by omega
    go_wp2_with fail
    go_ret
    refine ⟨?_, Below.refl _ _⟩
    rw [show decide (LA = LB) = false by rw [decide_eq_false_iff_not]; intro e; exact hl (by rw [e])]
    rfl
set_option maxRecDepth 100000 in
set_option maxHeartbeats 2000000 in
theorem rcount_any (w : World) (n₀ : Nat) (a : Option Addr) (cap : Nat) (L : List Sp) (hc : SpAt w n₀ a L) (hn : n₀ ≤ w.heap.size) :
    Calls Try.prog 108 #[.slice a L.length cap] w fun e w' => e = .returned (.int .i64 (countL L)) ∧ Below w.heap.size w w' := by
  have HS := Lib.hid hc
  clear hc
  have HN := Lib.hid hn
  clear hn
  go_enter Try.func108, Try.ntmps108
  go_wp2_with fail
  go_loopg [3, 4] L.length (fun g sv kv wr => ∃ (k : Nat), sv = .int .i64 (countF (L.take k)) ∧ kv = .int .i64 (k : Int) ∧ g + k = L.length ∧ (k = 0 ∨ canonB L = true) ∧ Below w.heap.size w wr)
  case atStart => exact ⟨0, rfl, rfl, rfl, .inl rfl, Below.refl _ _⟩
  case round =>
    obtain ⟨k, rfl, rfl, hg, hz, hB⟩ := hrel
    have HB := Lib.hid hB
    have HZ := Lib.hid hz
    clear hB hz
    by_cases hk : k < L.length
    · obtain ⟨b, off, rfl, hbk, hcs⟩ := HS.out.cells (by omega)
      obtain ⟨d0, d1⟩ := hcs k hk
      clear hcs
      have hkr : (k : Int) < (L.length : Int) := by omega
      have hn := HN.out
      have hsz := HB.out.size
      go_wp2_with fail
      refine (rvalid_any wr n₀ (some ⟨b, off, none⟩) cap L (HS.out.below (HB.out.mono HN.out)) (by omega)).mono ?_
      rintro e w2 ⟨rfl, hb⟩
      replace HB := Lib.hid (HB.out.trans (hb.mono HB.out.size))
      clear hb hsz
      cases hv : canonB L
      · have HV := Lib.hid hv
        clear hv
        go_wp2_with fail
        go_ret
        refine ⟨?_, HB.out⟩
        obtain rfl : k = 0 := by rcases HZ.out with h | h; exact h; rw [HV.out] at h; cases h
        unfold countL
        rw [HV.out]
        rfl
      · have HV := Lib.hid hv
        clear hv
        have b2 := countF_nonneg (canonF_take HV.out k)
        have b3 := countF_nonneg (canonF_take HV.out (k + 1))
        have HT := Lib.hid (countF_take hk)
        rw [HT.out] at b3
        have b1 := canonF_nth HV.out hk
        replace d0 := cell_bel2 d0 (by omega) HB.out
        replace d1 := cell_bel2 d1 (by omega) HB.out
        generalize L[k] = x at d0 d1 HT b1 b3
        obtain ⟨x1, x2⟩ := x
        dsimp only at d0 d1 b1 b3
        have HW := Lib.hid (show wrap64 (wrap64 (countF (L.take k) + x2) - x1) = countF (L.take (k + 1)) by rw [HT.out]; dsimp only; unfold wrap64; omega)
        have HW2 := Lib.hid (show countF (L.take k) + x2 - x1 = countF (L.take (k + 1)) by rw [HT.out]; dsimp only; omega)
        go_wp2_with fail
        go_quiet (fail)
        first | rw [HW.out] | rw [HW2.out]
        go_wp2_with fail
        go_roundg (gk - 1)
        case measure => omega
        case rel => exact ⟨k + 1, rfl, by first | go_num | (have hsm := HS.out.small; have e : wrap64 ((k : Int) + 1) = ((k + 1 : Nat) : Int) := (by unfold wrap64; omega); rw [e]), by omega, .inr HV.out, HB.out.trans (nqBel0 w2 nq HB.out.size)⟩
    · go_wp2_with fail
      go_ret
      refine ⟨?_, HB.out⟩
      obtain rfl : k = L.length := by omega
      rw [List.take_length]
      unfold countL
      rw [if_pos (by rcases HZ.out with h | h; exact (by rw [List.eq_nil_of_length_eq_zero h]; rfl); exact h)]
      rfl
end Go.Proofs.Ytncjeleabpodaaa
