/- TCPStateProgress: its walk. -/
import Derived.Test.YtnchhniadacjfaaDoorStSanity
import Derived.Test.YtnchhniadacjfaaDoorStRows
namespace Go.Proofs.YtnchhniadacjfaaDoor
open Go.RowKit
def lvlN (s : Nat) : Nat := [7, 1, 2, 3, 4, 5, 4, 5, 5, 6].getD s 0
def lvl (s : Int) : Int := lvlN s.toNat
theorem lvl_le : ∀ s, s < 10 → lvlN s ≤ 7 := by decide
def progOk (s ev : Int) : Bool := !decide (stE s ev = 0) || (decide (stN s ev = 0 ∨ s < stN s ev) && (decide (lvl s + 1 ≤ lvl (stN s ev)) && (decide (0 ≤ stN s ev ∧ stN s ev < 10) && !(nameB (stN s ev)).toList.isEmpty)))
theorem prog_list : ∀ s, s < 10 → ∀ ev, ev < 10 → 1 ≤ s → progOk (s : Nat) (ev : Nat) = true := by decide +kernel
theorem prog_cases (s ev : Int) (h1 : 1 ≤ s) (he : stE s ev = 0) : s < 10 ∧ (stN s ev = 0 ∨ s < stN s ev) ∧ lvl s + 1 ≤ lvl (stN s ev) ∧ 0 ≤ stN s ev ∧ stN s ev < 10 ∧ (nameB (stN s ev)).toList.isEmpty = false := by
  have hr : 0 ≤ s ∧ s < 10 ∧ 0 ≤ ev ∧ ev < 10 := by
    by_cases hh : s < 0 ∨ 10 ≤ s ∨ ev < 0 ∨ 10 ≤ ev
    · exfalso; unfold stE at he; rw [stV_out s ev hh] at he; simp at he
    · omega
  obtain ⟨a, rfl⟩ := Int.eq_ofNat_of_zero_le hr.1
  obtain ⟨b, rfl⟩ := Int.eq_ofNat_of_zero_le hr.2.2.1
  have hk := prog_list a (by omega) b (by omega) (by omega)
  unfold progOk at hk
  simp only [he, decide_true, Bool.not_true, Bool.false_or, Bool.and_eq_true, decide_eq_true_eq, Bool.not_eq_true'] at hk
  exact ⟨by omega, hk.1, hk.2.1, hk.2.2.1.1, hk.2.2.1.2, hk.2.2.2⟩
theorem stE_or (s ev : Int) : stE s ev = 0 ∨ stE s ev = 170 := by unfold stE; split <;> simp
set_option maxRecDepth 100000 in
set_option maxHeartbeats 4000000 in
theorem prog_pos (op : Bool) (w : World) (b off len cap : Nat) (zs : List Int) (hb : b < w.heap.size) (hlen : len ≤ maxLen)
    (hc : ∀ i, i < len → w.cell? ⟨b, off + i, none⟩ = some (.int .i64 (zs.getD i 0)) ∧ (Lit.int .i64 (zs.getD i 0)).wf = true)
    (hT : Triples w) (hN : Names w) :
    Calls Tryd.prog 4 #[.bool op, .slice (some ⟨b, off, none⟩) len cap] w fun r w' => r = .returned (.bool true) ∧ Below w.heap.size w w' := by
  unfold maxLen at hlen
  have HC := Lib.hid hc
  clear hc
  cases op
  all_goals
    go_enter Tryd.func4, Tryd.ntmps4
    go_wp2_with fail
    refine (sanity_any _ hT hN).mono ?_
    rintro r w0 ⟨rfl, hB0⟩
    go_wp2_with fail
    refine (step_any 0 _ _ (hT.below hB0)).mono ?_
    rintro r w1 ⟨rfl, b1⟩
    have hB1 := hB0.trans (b1.mono hB0.size)
    clear b1 hB0
    first | rw [show stN 0 2 = 2 by decide +kernel, show stE 0 2 = 0 by decide +kernel] | rw [show stN 0 1 = 1 by decide +kernel, show stE 0 1 = 0 by decide +kernel]
    go_wp2_with fail
    go_loopw [7, 9, 10] (fun s n i wr => ∃ (k : Nat) (sv nv : Int), k ≤ len ∧ k ≤ 30 ∧ i = .int .i64 k ∧ s = .int .i64 sv ∧ n = .int .i64 nv ∧ 0 ≤ sv ∧ sv < 10 ∧ 1 ≤ nv ∧ nv ≤ lvl sv ∧ Below w.heap.size w wr) (fun _ _ i _ => 30 - (intOf i).toNat)
    case atStart => exact ⟨0, _, 1, by omega, by omega, rfl, rfl, rfl, by omega, by omega, by omega, by decide, hB1⟩
    case round =>
      obtain ⟨k, sv, nv, hk1, hk2, rfl, rfl, rfl, hs0, hs10, hn1, hnl, hB⟩ := hrel
      have h7 : lvl sv ≤ 7 := by have := lvl_le sv.toNat (by omega); unfold lvl; omega
      have hn7 : nv ≤ 7 := by omega
      have Hnl := Lib.hid hnl
      clear hnl h7
      by_cases hgo : k < len ∧ k < 30 ∧ sv ≠ 0
      · obtain ⟨hlt, h30, hne⟩ := hgo
        have hne' : (sv != 0) = true := by simpa using hne
        obtain ⟨hc, hwf⟩ := HC.out k hlt
        have hc' := (hB.cell (p := ⟨b, off + k, none⟩) hb).trans hc
        have hbd := wf64 hwf
        clear hc hwf
        generalize zs.getD k 0 = z at hc' hbd
        obtain ⟨hb1, hb2⟩ := hbd
        go_wp2_with fail
        refine (pick_any z 9 _ hb1 hb2 (by omega) (by omega)).mono ?_
        rintro r w1 ⟨rfl, rfl⟩
        have hp := pickV_bd z 9 (by omega)
        obtain ⟨hp1, hp2⟩ := hp
        clear hc' hb1 hb2
        generalize pickV z 9 = pv at hp1 hp2 ⊢
        go_wp2_with fail
        refine (step_any sv (1 + pv) _ (hT.below hB)).mono ?_
        rintro r w1 ⟨rfl, b1⟩
        have hBB := hB.trans (b1.mono hB.size)
        clear hB b1
        rcases stE_or sv (1 + pv) with he | he
        · have hx := prog_cases sv (1 + pv) (by omega) he
          rw [he]
          generalize stN sv (1 + pv) = y at hx ⊢
          obtain ⟨_, hx1, hx2, hx3, hx4, hx5⟩ := hx
          have Hx2 := Lib.hid hx2
          clear hx2 he hp1 hp2
          by_cases hy : y = 0
          · subst hy
            clear hx1
            go_wp2_with fail
            refine (string_any 0 _ (hN.below hBB)).mono ?_
            rintro r w2 ⟨rfl, rfl⟩
            go_wp2_with fail
            go_roundw
            case rel => exact ⟨k + 1, 0, nv + 1, by omega, by omega, by go_num, rfl, rfl, by omega, by omega, by omega, by have := Hx2.out; have := Hnl.out; omega, hBB⟩
            case measure => simp [intOf]; omega
          · have hy' : (y != 0) = true := by simpa using hy
            have hlt2 : sv < y := by omega
            clear hx1 hy
            go_wp2_with fail
            refine (string_any y _ (hN.below hBB)).mono ?_
            rintro r w2 ⟨rfl, rfl⟩
            go_wp2_with fail
            go_roundw
            case rel => exact ⟨k + 1, y, nv + 1, by omega, by omega, by go_num, rfl, rfl, by omega, by omega, by omega, by have := Hx2.out; have := Hnl.out; omega, hBB⟩
            case measure => simp [intOf]; omega
        · rw [he]
          generalize stN sv (1 + pv) = y
          clear he
          go_wp2_with fail
          go_roundw
          case rel => exact ⟨k + 1, sv, nv, by omega, by omega, by go_num, rfl, rfl, by omega, by omega, by omega, Hnl.out, hBB⟩
          case measure => simp [intOf]; omega
      · by_cases hlt : k < len
        · by_cases h30 : k < 30
          · obtain rfl : sv = 0 := by omega
            go_wp2_with fail
            go_ret
            exact ⟨rfl, hB⟩
          · go_wp2_with fail
            go_ret
            exact ⟨rfl, hB⟩
        · go_wp2_with fail
          go_ret
          exact ⟨rfl, hB⟩
set_option maxRecDepth 100000 in
set_option maxHeartbeats 1000000 in
theorem prog_zero (op : Bool) (w : World) (a : Option Addr) (cap : Nat) (hT : Triples w) (hN : Names w) :
    Calls Tryd.prog 4 #[.bool op, .slice a 0 cap] w fun r w' => r = .returned (.bool true) ∧ Below w.heap.size w w' := by
  cases op
  all_goals
    go_enter Tryd.func4, Tryd.ntmps4
    go_wp2_with fail
    refine (sanity_any _ hT hN).mono ?_
    rintro r w0 ⟨rfl, hB0⟩
    go_wp2_with fail
    refine (step_any 0 _ _ (hT.below hB0)).mono ?_
    rintro r w1 ⟨rfl, b1⟩
    have hB1 := hB0.trans (b1.mono hB0.size)
    clear b1 hB0
    first | rw [show stN 0 2 = 2 by decide +kernel, show stE 0 2 = 0 by decide +kernel] | rw [show stN 0 1 = 1 by decide +kernel, show stE 0 1 = 0 by decide +kernel]
    go_wp2_with fail
    go_loopw [9, 10] (fun n i wr => n = .int .i64 1 ∧ i = .int .i64 0 ∧ Below w.heap.size w wr) (fun _ _ _ => 0)
    case atStart => exact ⟨rfl, rfl, hB1⟩
    case round =>
      obtain ⟨rfl, rfl, hB⟩ := hrel
      go_wp2_with fail
      go_ret
      exact ⟨rfl, hB⟩
theorem walk_TCPStateProgress (w : World) (op : Bool) (a : Option Addr) (len cap : Nat) (zs : List Int) (hr : IsRow .i64 w a len cap zs) (h : Triples w ∧ Names w) :
    Calls Tryd.prog 4 #[.bool op, .slice a len cap] w fun r w' => r = .returned (.bool true) ∧ Below w.heap.size w w' := by
  by_cases hp : 0 < len
  · obtain ⟨b, off, rfl, hl, hb, hc⟩ := hr.at hp
    exact prog_pos op w b off len cap zs hb hl hc h.1 h.2
  · obtain rfl : len = 0 := by omega
    exact prog_zero op w a cap h.1 h.2
end Go.Proofs.YtnchhniadacjfaaDoor
