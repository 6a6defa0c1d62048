/- The walk of tcpstate.Step over the table. -/
import Derived.Test.YtnchhniadacjfaaDoorStTrans
namespace Go.Proofs.YtnchhniadacjfaaDoor
open Go.RowKit
/-- The table's entry, -1 where there is none. -/
def stV (s e : Int) : Int := if 0 ≤ s ∧ s < 10 ∧ 0 ≤ e ∧ e < 10 then tripV 16 (s.toNat * 10 + e.toNat) else -1
def stN (s e : Int) : Int := if stV s e = -1 then 0 else stV s e
def stE (s e : Int) : Int := if stV s e = -1 then 170 else 0
theorem stV_in (a b : Nat) (ha : a < 10) (hb : b < 10) : stV a b = tripV 16 (a * 10 + b) := by
  unfold stV; rw [if_pos ⟨by omega, by omega, by omega, by omega⟩]; simp
theorem stV_out (s e : Int) (h : s < 0 ∨ 10 ≤ s ∨ e < 0 ∨ 10 ≤ e) : stV s e = -1 := by
  unfold stV; rw [if_neg (by omega)]
theorem ret2 {a b c d : Int} (h : a = b) (h' : c = d) : Ending.returned (.tuple #[.int .i64 a, .int .i64 c]) = .returned (.tuple #[.int .i64 b, .int .i64 d]) := by rw [h, h']
set_option maxHeartbeats 400000 in
theorem step_out (s e : Int) (w : World) (h : s < 0 ∨ 10 ≤ s ∨ e < 0 ∨ 10 ≤ e) :
    Calls Tryd.prog 10 #[.int .i64 s, .int .i64 e] w fun r w' => r = .returned (.tuple #[.int .i64 (stN s e), .int .i64 (stE s e)]) ∧ Below w.heap.size w w' := by
  have h0 : stN s e = 0 := by unfold stN; rw [if_pos (stV_out s e h)]
  have h1 : stE s e = 170 := by unfold stE; rw [if_pos (stV_out s e h)]
  rw [h0, h1]
  clear h0 h1
  by_cases c1 : s < 0
  · clear h
    go_enter Tryd.func10, Tryd.ntmps10
    go_wp2
    go_ret2
    exact ⟨rfl, Below.refl _ _⟩
  · by_cases c2 : 10 ≤ s
    · clear h
      go_enter Tryd.func10, Tryd.ntmps10
      go_wp2
      go_ret2
      exact ⟨rfl, Below.refl _ _⟩
    · by_cases c3 : e < 0
      · clear h
        go_enter Tryd.func10, Tryd.ntmps10
        go_wp2
        go_ret2
        exact ⟨rfl, Below.refl _ _⟩
      · have c4 : 10 ≤ e := by omega
        clear h
        go_enter Tryd.func10, Tryd.ntmps10
        go_wp2
        go_ret2
        exact ⟨rfl, Below.refl _ _⟩
set_option maxHeartbeats 400000 in
theorem step_in (a b : Nat) (ha : a < 10) (hb : b < 10) (w : World) (hT : Triples w) :
    Calls Tryd.prog 10 #[.int .i64 a, .int .i64 b] w fun r w' => r = .returned (.tuple #[.int .i64 (stN a b), .int .i64 (stE a b)]) ∧ Below w.heap.size w w' := by
  have hz := zero36
  have hv := stV_in a b ha hb
  have HV := Lib.hid hv
  clear hv
  go_enter Tryd.func10, Tryd.ntmps10
  go_wp2_with (first | (go_at_call 20; refine (trans_any _ hT).mono ?_; rintro r w1 ⟨rfl, hb1⟩) | (refine wpList_store_row rfl 36 (.tmp 6) (.tmp 22) rfl w1.heap.size _ rfl rfl 36 _ (heap_alloc_new _ _) (by kernel_rfl) (by kernel_rfl) (by kernel_rfl) ?_; have hc : ((w1.alloc (.cells (tabOf fun _ => 0) 36)).setRow w1.heap.size (tabOf (tripV 16))).cell? ⟨w1.heap.size, a * 10 + b, none⟩ = some (.int .i64 (tripV 16 (a * 10 + b))) := (cell_setRow_same _ _ _ _ _ _ _ (heap_alloc_new _ _)).trans (tabOf_get _ _ (by omega)); have hq : Below w.heap.size w ((w1.alloc (.cells (tabOf fun _ => 0) 36)).setRow w1.heap.size (tabOf (tripV 16))) := below_setRow (hb1.alloc hb1.size _) _ _ hb1.size; generalize (w1.alloc (.cells (tabOf fun _ => 0) 36)).setRow w1.heap.size (tabOf (tripV 16)) = w2 at hc hq ⊢; rw [← HV.out] at hc))
  all_goals go_ret2
  · rename_i hx
    have hx' : stV a b = -1 := by simpa using hx
    exact ⟨ret2 (by unfold stN; rw [if_pos hx']) (by unfold stE; rw [if_pos hx']), hq⟩
  · rename_i hx
    have hx' : ¬ stV a b = -1 := by simpa using hx
    exact ⟨ret2 (by unfold stN; rw [if_neg hx']) (by unfold stE; rw [if_neg hx']), hq⟩
/-- Step, at every state and event. -/
theorem step_any (s e : Int) (w : World) (hT : Triples w) :
    Calls Tryd.prog 10 #[.int .i64 s, .int .i64 e] w fun r w' => r = .returned (.tuple #[.int .i64 (stN s e), .int .i64 (stE s e)]) ∧ Below w.heap.size w w' := by
  by_cases h : s < 0 ∨ 10 ≤ s ∨ e < 0 ∨ 10 ≤ e
  · exact step_out s e w h
  · obtain ⟨a, rfl⟩ := Int.eq_ofNat_of_zero_le (show 0 ≤ s by omega)
    obtain ⟨b, rfl⟩ := Int.eq_ofNat_of_zero_le (show 0 ≤ e by omega)
    exact step_in a b (by omega) (by omega) w hT
end Go.Proofs.YtnchhniadacjfaaDoor
