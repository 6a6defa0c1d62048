/- TCPStateHalfClose: its walk. -/
import Derived.Test.YtnchhniadacjfaaDoorStSanity
import Derived.Test.YtnchhniadacjfaaDoorStRows
namespace Go.Proofs.YtnchhniadacjfaaDoor
open Go.RowKit
def clB (s : Int) : Bool := decide (s = 4 ∨ s = 5 ∨ s = 7 ∨ s = 8 ∨ s = 9)
def enB (s : Int) : Bool := decide (s = 6 ∨ s = 7 ∨ s = 8 ∨ s = 9)
def halfL : List (Nat × Nat) := [(3, 5), (3, 6), (3, 8), (3, 9), (4, 6), (4, 7), (4, 8), (4, 9), (5, 6), (5, 8), (5, 9), (6, 5), (6, 8), (6, 9), (7, 7), (7, 8), (7, 9), (8, 7), (8, 8), (8, 9), (9, 8), (9, 9)]
theorem half_list : ∀ s, s < 10 → ∀ ev, ev < 10 → 3 ≤ s → stE (s : Nat) (ev : Nat) = 0 → halfL.contains (s, ev) = true := by decide +kernel
theorem half_cases (s ev : Int) (h3 : 3 ≤ s) (he : stE s ev = 0) : (s = 3 ∧ ev = 5) ∨ (s = 3 ∧ ev = 6) ∨ (s = 3 ∧ ev = 8) ∨ (s = 3 ∧ ev = 9) ∨ (s = 4 ∧ ev = 6) ∨ (s = 4 ∧ ev = 7) ∨ (s = 4 ∧ ev = 8) ∨ (s = 4 ∧ ev = 9) ∨ (s = 5 ∧ ev = 6) ∨ (s = 5 ∧ ev = 8) ∨ (s = 5 ∧ ev = 9) ∨ (s = 6 ∧ ev = 5) ∨ (s = 6 ∧ ev = 8) ∨ (s = 6 ∧ ev = 9) ∨ (s = 7 ∧ ev = 7) ∨ (s = 7 ∧ ev = 8) ∨ (s = 7 ∧ ev = 9) ∨ (s = 8 ∧ ev = 7) ∨ (s = 8 ∧ ev = 8) ∨ (s = 8 ∧ ev = 9) ∨ (s = 9 ∧ ev = 8) ∨ (s = 9 ∧ ev = 9) := by
  have hr : 0 ≤ s ∧ s < 10 ∧ 0 ≤ ev ∧ ev < 10 := by
    by_cases hh : s < 0 ∨ 10 ≤ s ∨ ev < 0 ∨ 10 ≤ ev
    · exfalso; unfold stE at he; rw [stV_out s ev hh] at he; simp at he
    · omega
  obtain ⟨a, rfl⟩ := Int.eq_ofNat_of_zero_le hr.1
  obtain ⟨b, rfl⟩ := Int.eq_ofNat_of_zero_le hr.2.2.1
  have := half_list a (by omega) b (by omega) (by omega) he
  simp only [halfL, List.contains_cons, List.contains_nil, Bool.or_false, Bool.or_eq_true, beq_iff_eq, Prod.mk.injEq] at this
  rcases this with ⟨rfl, rfl⟩ | ⟨rfl, rfl⟩ | ⟨rfl, rfl⟩ | ⟨rfl, rfl⟩ | ⟨rfl, rfl⟩ | ⟨rfl, rfl⟩ | ⟨rfl, rfl⟩ | ⟨rfl, rfl⟩ | ⟨rfl, rfl⟩ | ⟨rfl, rfl⟩ | ⟨rfl, rfl⟩ | ⟨rfl, rfl⟩ | ⟨rfl, rfl⟩ | ⟨rfl, rfl⟩ | ⟨rfl, rfl⟩ | ⟨rfl, rfl⟩ | ⟨rfl, rfl⟩ | ⟨rfl, rfl⟩ | ⟨rfl, rfl⟩ | ⟨rfl, rfl⟩ | ⟨rfl, rfl⟩ | ⟨rfl, rfl⟩
  all_goals simp
set_option maxRecDepth 100000 in
set_option maxHeartbeats 8000000 in
theorem half_pos (w : World) (b off len cap : Nat) (zs : List Int) (hb : b < w.heap.size) (hlen : len ≤ maxLen)
    (hc : ∀ i, i < len → w.cell? ⟨b, off + i, none⟩ = some (.int .i64 (zs.getD i 0)) ∧ (Lit.int .i64 (zs.getD i 0)).wf = true)
    (hT : Triples w) (hN : Names w) :
    Calls Tryd.prog 5 #[.slice (some ⟨b, off, none⟩) len cap] w fun r w' => r = .returned (.bool true) ∧ Below w.heap.size w w' := by
  unfold maxLen at hlen
  have HC := Lib.hid hc
  clear hc
  go_enter Tryd.func5, Tryd.ntmps5
  go_wp2_with fail
  refine (sanity_any _ hT hN).mono ?_
  rintro r w0 ⟨rfl, hB0⟩
  go_wp2_with fail
  go_loopw [4, 5, 6, 7] (fun s c e i wr => ∃ (k : Nat) (sv : Int), k ≤ len ∧ k ≤ 30 ∧ i = .int .i64 k ∧ s = .int .i64 sv ∧ c = .bool (clB sv) ∧ e = .bool (enB sv) ∧ 3 ≤ sv ∧ Below w.heap.size w wr) (fun _ _ _ i _ => 30 - (intOf i).toNat)
  case atStart => exact ⟨0, 3, by omega, by omega, rfl, rfl, rfl, rfl, by omega, hB0⟩
  case round =>
    obtain ⟨k, sv, hk1, hk2, rfl, rfl, rfl, rfl, h3, hB⟩ := hrel
    by_cases hlt : k < len
    · by_cases h30 : k < 30
      · obtain ⟨hc, hwf⟩ := HC.out k hlt
        have hc' := (hB.cell (p := ⟨b, off + k, none⟩) hb).trans hc
        have hbd := wf64 hwf
        clear hc hwf
        generalize zs.getD k 0 = z at hc' hbd
        obtain ⟨hb1, hb2⟩ := hbd
        go_wp2_with fail
        refine (pick_any z 9 _ hb1 hb2 (by omega) (by omega)).mono ?_
        rintro r w1 ⟨rfl, rfl⟩
        have hp := pickV_bd z 9 (by omega)
        obtain ⟨hp1, hp2⟩ := hp
        clear hc' hb1 hb2
        generalize pickV z 9 = pv at hp1 hp2 ⊢
        go_wp2_with fail
        refine (step_any sv (1 + pv) _ (hT.below hB)).mono ?_
        rintro r w1 ⟨rfl, b1⟩
        have hB1 := hB.trans (b1.mono hB.size)
        clear hB b1
        by_cases he : stE sv (1 + pv) = 0
        · obtain ⟨q, hq⟩ : ∃ q, q = 1 + pv := ⟨_, rfl⟩
          rw [← hq] at he ⊢
          clear hp1 hp2
          rcases half_cases sv q h3 he with ⟨rfl, rfl⟩ | ⟨rfl, rfl⟩ | ⟨rfl, rfl⟩ | ⟨rfl, rfl⟩ | ⟨rfl, rfl⟩ | ⟨rfl, rfl⟩ | ⟨rfl, rfl⟩ | ⟨rfl, rfl⟩ | ⟨rfl, rfl⟩ | ⟨rfl, rfl⟩ | ⟨rfl, rfl⟩ | ⟨rfl, rfl⟩ | ⟨rfl, rfl⟩ | ⟨rfl, rfl⟩ | ⟨rfl, rfl⟩ | ⟨rfl, rfl⟩ | ⟨rfl, rfl⟩ | ⟨rfl, rfl⟩ | ⟨rfl, rfl⟩ | ⟨rfl, rfl⟩ | ⟨rfl, rfl⟩ | ⟨rfl, rfl⟩
          · rw [show stN 3 5 = 4 by decide +kernel, show stE 3 5 = 0 by decide +kernel, show clB 3 = false from rfl, show enB 3 = false from rfl]
            clear he hq h3
            go_wp2_with fail
            refine (canSend_any 4 _).mono ?_
            rintro r w2 ⟨rfl, rfl⟩
            rw [show canS 4 = false from rfl]
            go_wp2_with fail
            refine (canReceive_any 4 _).mono ?_
            rintro r w2 ⟨rfl, rfl⟩
            rw [show canR 4 = true from rfl]
            go_wp2_with fail
            refine (synchronized_any 4 _).mono ?_
            rintro r w2 ⟨rfl, rfl⟩
            rw [show synced 4 = true from rfl]
            go_wp2_with fail
            go_roundw
            case rel => exact ⟨k + 1, 4, by omega, by omega, by go_num, rfl, rfl, rfl, by omega, hB1⟩
            case measure => simp [intOf]; omega
          · rw [show stN 3 6 = 6 by decide +kernel, show stE 3 6 = 0 by decide +kernel, show clB 3 = false from rfl, show enB 3 = false from rfl]
            clear he hq h3
            go_wp2_with fail
            refine (canSend_any 6 _).mono ?_
            rintro r w2 ⟨rfl, rfl⟩
            rw [show canS 6 = true from rfl]
            go_wp2_with fail
            refine (canReceive_any 6 _).mono ?_
            rintro r w2 ⟨rfl, rfl⟩
            rw [show canR 6 = false from rfl]
            go_wp2_with fail
            refine (synchronized_any 6 _).mono ?_
            rintro r w2 ⟨rfl, rfl⟩
            rw [show synced 6 = true from rfl]
            go_wp2_with fail
            go_roundw
            case rel => exact ⟨k + 1, 6, by omega, by omega, by go_num, rfl, rfl, rfl, by omega, hB1⟩
            case measure => simp [intOf]; omega
          · rw [show stN 3 8 = 0 by decide +kernel, show stE 3 8 = 0 by decide +kernel, show clB 3 = false from rfl, show enB 3 = false from rfl]
            clear he hq h3
            go_wp2_with fail
            refine (canSend_any 0 _).mono ?_
            rintro r w2 ⟨rfl, rfl⟩
            rw [show canS 0 = false from rfl]
            go_wp2_with fail
            refine (canReceive_any 0 _).mono ?_
            rintro r w2 ⟨rfl, rfl⟩
            rw [show canR 0 = false from rfl]
            go_wp2_with fail
            refine (synchronized_any 0 _).mono ?_
            rintro r w2 ⟨rfl, rfl⟩
            rw [show synced 0 = false from rfl]
            go_wp2_with fail
            go_ret
            exact ⟨rfl, hB1⟩
          · rw [show stN 3 9 = 0 by decide +kernel, show stE 3 9 = 0 by decide +kernel, show clB 3 = false from rfl, show enB 3 = false from rfl]
            clear he hq h3
            go_wp2_with fail
            refine (canSend_any 0 _).mono ?_
            rintro r w2 ⟨rfl, rfl⟩
            rw [show canS 0 = false from rfl]
            go_wp2_with fail
            refine (canReceive_any 0 _).mono ?_
            rintro r w2 ⟨rfl, rfl⟩
            rw [show canR 0 = false from rfl]
            go_wp2_with fail
            refine (synchronized_any 0 _).mono ?_
            rintro r w2 ⟨rfl, rfl⟩
            rw [show synced 0 = false from rfl]
            go_wp2_with fail
            go_ret
            exact ⟨rfl, hB1⟩
          · rw [show stN 4 6 = 7 by decide +kernel, show stE 4 6 = 0 by decide +kernel, show clB 4 = true from rfl, show enB 4 = false from rfl]
            clear he hq h3
            go_wp2_with fail
            refine (canSend_any 7 _).mono ?_
            rintro r w2 ⟨rfl, rfl⟩
            rw [show canS 7 = false from rfl]
            go_wp2_with fail
            refine (canReceive_any 7 _).mono ?_
            rintro r w2 ⟨rfl, rfl⟩
            rw [show canR 7 = false from rfl]
            go_wp2_with fail
            refine (synchronized_any 7 _).mono ?_
            rintro r w2 ⟨rfl, rfl⟩
            rw [show synced 7 = true from rfl]
            go_wp2_with fail
            go_roundw
            case rel => exact ⟨k + 1, 7, by omega, by omega, by go_num, rfl, rfl, rfl, by omega, hB1⟩
            case measure => simp [intOf]; omega
          · rw [show stN 4 7 = 5 by decide +kernel, show stE 4 7 = 0 by decide +kernel, show clB 4 = true from rfl, show enB 4 = false from rfl]
            clear he hq h3
            go_wp2_with fail
            refine (canSend_any 5 _).mono ?_
            rintro r w2 ⟨rfl, rfl⟩
            rw [show canS 5 = false from rfl]
            go_wp2_with fail
            refine (canReceive_any 5 _).mono ?_
            rintro r w2 ⟨rfl, rfl⟩
            rw [show canR 5 = true from rfl]
            go_wp2_with fail
            refine (synchronized_any 5 _).mono ?_
            rintro r w2 ⟨rfl, rfl⟩
            rw [show synced 5 = true from rfl]
            go_wp2_with fail
            go_roundw
            case rel => exact ⟨k + 1, 5, by omega, by omega, by go_num, rfl, rfl, rfl, by omega, hB1⟩
            case measure => simp [intOf]; omega
          · rw [show stN 4 8 = 0 by decide +kernel, show stE 4 8 = 0 by decide +kernel, show clB 4 = true from rfl, show enB 4 = false from rfl]
            clear he hq h3
            go_wp2_with fail
            refine (canSend_any 0 _).mono ?_
            rintro r w2 ⟨rfl, rfl⟩
            rw [show canS 0 = false from rfl]
            go_wp2_with fail
            refine (canReceive_any 0 _).mono ?_
            rintro r w2 ⟨rfl, rfl⟩
            rw [show canR 0 = false from rfl]
            go_wp2_with fail
            refine (synchronized_any 0 _).mono ?_
            rintro r w2 ⟨rfl, rfl⟩
            rw [show synced 0 = false from rfl]
            go_wp2_with fail
            go_ret
            exact ⟨rfl, hB1⟩
          · rw [show stN 4 9 = 0 by decide +kernel, show stE 4 9 = 0 by decide +kernel, show clB 4 = true from rfl, show enB 4 = false from rfl]
            clear he hq h3
            go_wp2_with fail
            refine (canSend_any 0 _).mono ?_
            rintro r w2 ⟨rfl, rfl⟩
            rw [show canS 0 = false from rfl]
            go_wp2_with fail
            refine (canReceive_any 0 _).mono ?_
            rintro r w2 ⟨rfl, rfl⟩
            rw [show canR 0 = false from rfl]
            go_wp2_with fail
            refine (synchronized_any 0 _).mono ?_
            rintro r w2 ⟨rfl, rfl⟩
            rw [show synced 0 = false from rfl]
            go_wp2_with fail
            go_ret
            exact ⟨rfl, hB1⟩
          · rw [show stN 5 6 = 9 by decide +kernel, show stE 5 6 = 0 by decide +kernel, show clB 5 = true from rfl, show enB 5 = false from rfl]
            clear he hq h3
            go_wp2_with fail
            refine (canSend_any 9 _).mono ?_
            rintro r w2 ⟨rfl, rfl⟩
            rw [show canS 9 = false from rfl]
            go_wp2_with fail
            refine (canReceive_any 9 _).mono ?_
            rintro r w2 ⟨rfl, rfl⟩
            rw [show canR 9 = false from rfl]
            go_wp2_with fail
            refine (synchronized_any 9 _).mono ?_
            rintro r w2 ⟨rfl, rfl⟩
            rw [show synced 9 = true from rfl]
            go_wp2_with fail
            go_roundw
            case rel => exact ⟨k + 1, 9, by omega, by omega, by go_num, rfl, rfl, rfl, by omega, hB1⟩
            case measure => simp [intOf]; omega
          · rw [show stN 5 8 = 0 by decide +kernel, show stE 5 8 = 0 by decide +kernel, show clB 5 = true from rfl, show enB 5 = false from rfl]
            clear he hq h3
            go_wp2_with fail
            refine (canSend_any 0 _).mono ?_
            rintro r w2 ⟨rfl, rfl⟩
            rw [show canS 0 = false from rfl]
            go_wp2_with fail
            refine (canReceive_any 0 _).mono ?_
            rintro r w2 ⟨rfl, rfl⟩
            rw [show canR 0 = false from rfl]
            go_wp2_with fail
            refine (synchronized_any 0 _).mono ?_
            rintro r w2 ⟨rfl, rfl⟩
            rw [show synced 0 = false from rfl]
            go_wp2_with fail
            go_ret
            exact ⟨rfl, hB1⟩
          · rw [show stN 5 9 = 0 by decide +kernel, show stE 5 9 = 0 by decide +kernel, show clB 5 = true from rfl, show enB 5 = false from rfl]
            clear he hq h3
            go_wp2_with fail
            refine (canSend_any 0 _).mono ?_
            rintro r w2 ⟨rfl, rfl⟩
            rw [show canS 0 = false from rfl]
            go_wp2_with fail
            refine (canReceive_any 0 _).mono ?_
            rintro r w2 ⟨rfl, rfl⟩
            rw [show canR 0 = false from rfl]
            go_wp2_with fail
            refine (synchronized_any 0 _).mono ?_
            rintro r w2 ⟨rfl, rfl⟩
            rw [show synced 0 = false from rfl]
            go_wp2_with fail
            go_ret
            exact ⟨rfl, hB1⟩
          · rw [show stN 6 5 = 8 by decide +kernel, show stE 6 5 = 0 by decide +kernel, show clB 6 = false from rfl, show enB 6 = true from rfl]
            clear he hq h3
            go_wp2_with fail
            refine (canSend_any 8 _).mono ?_
            rintro r w2 ⟨rfl, rfl⟩
            rw [show canS 8 = false from rfl]
            go_wp2_with fail
            refine (canReceive_any 8 _).mono ?_
            rintro r w2 ⟨rfl, rfl⟩
            rw [show canR 8 = false from rfl]
            go_wp2_with fail
            refine (synchronized_any 8 _).mono ?_
            rintro r w2 ⟨rfl, rfl⟩
            rw [show synced 8 = true from rfl]
            go_wp2_with fail
            go_roundw
            case rel => exact ⟨k + 1, 8, by omega, by omega, by go_num, rfl, rfl, rfl, by omega, hB1⟩
            case measure => simp [intOf]; omega
          · rw [show stN 6 8 = 0 by decide +kernel, show stE 6 8 = 0 by decide +kernel, show clB 6 = false from rfl, show enB 6 = true from rfl]
            clear he hq h3
            go_wp2_with fail
            refine (canSend_any 0 _).mono ?_
            rintro r w2 ⟨rfl, rfl⟩
            rw [show canS 0 = false from rfl]
            go_wp2_with fail
            refine (canReceive_any 0 _).mono ?_
            rintro r w2 ⟨rfl, rfl⟩
            rw [show canR 0 = false from rfl]
            go_wp2_with fail
            refine (synchronized_any 0 _).mono ?_
            rintro r w2 ⟨rfl, rfl⟩
            rw [show synced 0 = false from rfl]
            go_wp2_with fail
            go_ret
            exact ⟨rfl, hB1⟩
          · rw [show stN 6 9 = 0 by decide +kernel, show stE 6 9 = 0 by decide +kernel, show clB 6 = false from rfl, show enB 6 = true from rfl]
            clear he hq h3
            go_wp2_with fail
            refine (canSend_any 0 _).mono ?_
            rintro r w2 ⟨rfl, rfl⟩
            rw [show canS 0 = false from rfl]
            go_wp2_with fail
            refine (canReceive_any 0 _).mono ?_
            rintro r w2 ⟨rfl, rfl⟩
            rw [show canR 0 = false from rfl]
            go_wp2_with fail
            refine (synchronized_any 0 _).mono ?_
            rintro r w2 ⟨rfl, rfl⟩
            rw [show synced 0 = false from rfl]
            go_wp2_with fail
            go_ret
            exact ⟨rfl, hB1⟩
          · rw [show stN 7 7 = 9 by decide +kernel, show stE 7 7 = 0 by decide +kernel, show clB 7 = true from rfl, show enB 7 = true from rfl]
            clear he hq h3
            go_wp2_with fail
            refine (canSend_any 9 _).mono ?_
            rintro r w2 ⟨rfl, rfl⟩
            rw [show canS 9 = false from rfl]
            go_wp2_with fail
            refine (canReceive_any 9 _).mono ?_
            rintro r w2 ⟨rfl, rfl⟩
            rw [show canR 9 = false from rfl]
            go_wp2_with fail
            refine (synchronized_any 9 _).mono ?_
            rintro r w2 ⟨rfl, rfl⟩
            rw [show synced 9 = true from rfl]
            go_wp2_with fail
            go_roundw
            case rel => exact ⟨k + 1, 9, by omega, by omega, by go_num, rfl, rfl, rfl, by omega, hB1⟩
            case measure => simp [intOf]; omega
          · rw [show stN 7 8 = 0 by decide +kernel, show stE 7 8 = 0 by decide +kernel, show clB 7 = true from rfl, show enB 7 = true from rfl]
            clear he hq h3
            go_wp2_with fail
            refine (canSend_any 0 _).mono ?_
            rintro r w2 ⟨rfl, rfl⟩
            rw [show canS 0 = false from rfl]
            go_wp2_with fail
            refine (canReceive_any 0 _).mono ?_
            rintro r w2 ⟨rfl, rfl⟩
            rw [show canR 0 = false from rfl]
            go_wp2_with fail
            refine (synchronized_any 0 _).mono ?_
            rintro r w2 ⟨rfl, rfl⟩
            rw [show synced 0 = false from rfl]
            go_wp2_with fail
            go_ret
            exact ⟨rfl, hB1⟩
          · rw [show stN 7 9 = 0 by decide +kernel, show stE 7 9 = 0 by decide +kernel, show clB 7 = true from rfl, show enB 7 = true from rfl]
            clear he hq h3
            go_wp2_with fail
            refine (canSend_any 0 _).mono ?_
            rintro r w2 ⟨rfl, rfl⟩
            rw [show canS 0 = false from rfl]
            go_wp2_with fail
            refine (canReceive_any 0 _).mono ?_
            rintro r w2 ⟨rfl, rfl⟩
            rw [show canR 0 = false from rfl]
            go_wp2_with fail
            refine (synchronized_any 0 _).mono ?_
            rintro r w2 ⟨rfl, rfl⟩
            rw [show synced 0 = false from rfl]
            go_wp2_with fail
            go_ret
            exact ⟨rfl, hB1⟩
          · rw [show stN 8 7 = 0 by decide +kernel, show stE 8 7 = 0 by decide +kernel, show clB 8 = true from rfl, show enB 8 = true from rfl]
            clear he hq h3
            go_wp2_with fail
            refine (canSend_any 0 _).mono ?_
            rintro r w2 ⟨rfl, rfl⟩
            rw [show canS 0 = false from rfl]
            go_wp2_with fail
            refine (canReceive_any 0 _).mono ?_
            rintro r w2 ⟨rfl, rfl⟩
            rw [show canR 0 = false from rfl]
            go_wp2_with fail
            refine (synchronized_any 0 _).mono ?_
            rintro r w2 ⟨rfl, rfl⟩
            rw [show synced 0 = false from rfl]
            go_wp2_with fail
            go_ret
            exact ⟨rfl, hB1⟩
          · rw [show stN 8 8 = 0 by decide +kernel, show stE 8 8 = 0 by decide +kernel, show clB 8 = true from rfl, show enB 8 = true from rfl]
            clear he hq h3
            go_wp2_with fail
            refine (canSend_any 0 _).mono ?_
            rintro r w2 ⟨rfl, rfl⟩
            rw [show canS 0 = false from rfl]
            go_wp2_with fail
            refine (canReceive_any 0 _).mono ?_
            rintro r w2 ⟨rfl, rfl⟩
            rw [show canR 0 = false from rfl]
            go_wp2_with fail
            refine (synchronized_any 0 _).mono ?_
            rintro r w2 ⟨rfl, rfl⟩
            rw [show synced 0 = false from rfl]
            go_wp2_with fail
            go_ret
            exact ⟨rfl, hB1⟩
          · rw [show stN 8 9 = 0 by decide +kernel, show stE 8 9 = 0 by decide +kernel, show clB 8 = true from rfl, show enB 8 = true from rfl]
            clear he hq h3
            go_wp2_with fail
            refine (canSend_any 0 _).mono ?_
            rintro r w2 ⟨rfl, rfl⟩
            rw [show canS 0 = false from rfl]
            go_wp2_with fail
            refine (canReceive_any 0 _).mono ?_
            rintro r w2 ⟨rfl, rfl⟩
            rw [show canR 0 = false from rfl]
            go_wp2_with fail
            refine (synchronized_any 0 _).mono ?_
            rintro r w2 ⟨rfl, rfl⟩
            rw [show synced 0 = false from rfl]
            go_wp2_with fail
            go_ret
            exact ⟨rfl, hB1⟩
          · rw [show stN 9 8 = 0 by decide +kernel, show stE 9 8 = 0 by decide +kernel, show clB 9 = true from rfl, show enB 9 = true from rfl]
            clear he hq h3
            go_wp2_with fail
            refine (canSend_any 0 _).mono ?_
            rintro r w2 ⟨rfl, rfl⟩
            rw [show canS 0 = false from rfl]
            go_wp2_with fail
            refine (canReceive_any 0 _).mono ?_
            rintro r w2 ⟨rfl, rfl⟩
            rw [show canR 0 = false from rfl]
            go_wp2_with fail
            refine (synchronized_any 0 _).mono ?_
            rintro r w2 ⟨rfl, rfl⟩
            rw [show synced 0 = false from rfl]
            go_wp2_with fail
            go_ret
            exact ⟨rfl, hB1⟩
          · rw [show stN 9 9 = 0 by decide +kernel, show stE 9 9 = 0 by decide +kernel, show clB 9 = true from rfl, show enB 9 = true from rfl]
            clear he hq h3
            go_wp2_with fail
            refine (canSend_any 0 _).mono ?_
            rintro r w2 ⟨rfl, rfl⟩
            rw [show canS 0 = false from rfl]
            go_wp2_with fail
            refine (canReceive_any 0 _).mono ?_
            rintro r w2 ⟨rfl, rfl⟩
            rw [show canR 0 = false from rfl]
            go_wp2_with fail
            refine (synchronized_any 0 _).mono ?_
            rintro r w2 ⟨rfl, rfl⟩
            rw [show synced 0 = false from rfl]
            go_wp2_with fail
            go_ret
            exact ⟨rfl, hB1⟩
        · generalize stE sv (1 + pv) = x at he ⊢
          generalize stN sv (1 + pv) = y
          have he2 : (x != 0) = true := by simpa using he
          clear he
          go_wp2_with fail
          go_roundw
          case rel => exact ⟨k + 1, sv, by omega, by omega, by go_num, rfl, rfl, rfl, by omega, hB1⟩
          case measure => simp [intOf]; omega
      · go_wp2_with fail
        go_ret
        exact ⟨rfl, hB⟩
    · go_wp2_with fail
      go_ret
      exact ⟨rfl, hB⟩
set_option maxRecDepth 100000 in
set_option maxHeartbeats 1000000 in
theorem half_zero (w : World) (a : Option Addr) (cap : Nat) (hT : Triples w) (hN : Names w) :
    Calls Tryd.prog 5 #[.slice a 0 cap] w fun r w' => r = .returned (.bool true) ∧ Below w.heap.size w w' := by
  go_enter Tryd.func5, Tryd.ntmps5
  go_wp2_with fail
  refine (sanity_any _ hT hN).mono ?_
  rintro r w0 ⟨rfl, hB0⟩
  go_wp2_with fail
  go_loopw [7] (fun i wr => i = .int .i64 0 ∧ Below w.heap.size w wr) (fun _ _ => 0)
  case atStart => exact ⟨rfl, hB0⟩
  case round =>
    obtain ⟨rfl, hB⟩ := hrel
    go_wp2_with fail
    go_ret
    exact ⟨rfl, hB⟩
theorem walk_TCPStateHalfClose (w : World) (a : Option Addr) (len cap : Nat) (zs : List Int) (hr : IsRow .i64 w a len cap zs) (h : Triples w ∧ Names w) :
    Calls Tryd.prog 5 #[.slice a len cap] w fun r w' => r = .returned (.bool true) ∧ Below w.heap.size w w' := by
  by_cases hp : 0 < len
  · obtain ⟨b, off, rfl, hl, hb, hc⟩ := hr.at hp
    exact half_pos w b off len cap zs hb hl hc h.1 h.2
  · obtain rfl : len = 0 := by omega
    exact half_zero w a cap h.1 h.2
end Go.Proofs.YtnchhniadacjfaaDoor

