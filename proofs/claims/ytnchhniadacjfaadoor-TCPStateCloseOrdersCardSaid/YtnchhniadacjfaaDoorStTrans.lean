/- The walk of tcpstate.transitions: it returns the table tripV 16. -/
import Derived.Test.YtnchhniadacjfaaDoorRows
import Derived.Test.YtnchhniadacjfaaDoorStPlain
import Derived.WalkKit
import Derived.WalkSpells
import Derived.WalkLawsBesides
import Derived.Lib.Hide
import Derived.Laws.Rows
namespace Go.Proofs.YtnchhniadacjfaaDoor
open Go.RowKit
theorem zero36 (w : World) : (zeroValue 36).run Tryd.prog w = .ok (.agg (tabOf fun _ => 0)) w := by kernel_rfl
theorem zero41 (w : World) : (zeroValue 41).run Tryd.prog w = .ok (.agg #[.int .i64 0, .int .i64 0, .int .i64 0]) w := by kernel_rfl
def tripCells : Array Value := ((List.range 16).flatMap fun i => [Value.int .i64 (tripA i), .int .i64 (tripB i), .int .i64 (tripC i)]).toArray
theorem tripIx : ∀ i, i < 16 → ∀ w, (Instr.index 42 (.agg tripCells) (.int .i64 (i : Nat))).run Tryd.prog w = .ok (.agg #[.int .i64 (tripA i), .int .i64 (tripB i), .int .i64 (tripC i)]) w
  | 0, _, _ => by kernel_rfl
  | 1, _, _ => by kernel_rfl
  | 2, _, _ => by kernel_rfl
  | 3, _, _ => by kernel_rfl
  | 4, _, _ => by kernel_rfl
  | 5, _, _ => by kernel_rfl
  | 6, _, _ => by kernel_rfl
  | 7, _, _ => by kernel_rfl
  | 8, _, _ => by kernel_rfl
  | 9, _, _ => by kernel_rfl
  | 10, _, _ => by kernel_rfl
  | 11, _, _ => by kernel_rfl
  | 12, _, _ => by kernel_rfl
  | 13, _, _ => by kernel_rfl
  | 14, _, _ => by kernel_rfl
  | 15, _, _ => by kernel_rfl
  | n + 16, h, _ => by omega
/-- The package variable 'triples' holds its initial value. -/
def Triples (w : World) : Prop := ∃ t fr, w.heap[1]? = some (.cells tripCells t fr)
set_option maxHeartbeats 400000 in
theorem trans_any (w : World) (hT : Triples w) :
    Calls Tryd.prog 20 #[] w fun e w' => e = .returned (.agg (tabOf (tripV 16))) ∧ Below w.heap.size w w' := by
  have hz := zero36
  go_enter Tryd.func20, Tryd.ntmps20
  go_wp2
  go_loopw [2, 3, 6, 7, 8, 9, 10, 11,12,13,14,15,16,17,18,19,20,21,22,23,24,25] (fun _ _ i _ _ _ _ _ _ _ _ _ _ _ _ _ _ _ _ _ _ _ wr => ∃ k : Nat, k ≤ 10 ∧ i = .int .i64 k ∧ RelT w (fillV k 0) wr) (fun _ _ i _ _ _ _ _ _ _ _ _ _ _ _ _ _ _ _ _ _ _ _ => 10 - (intOf i).toNat)
  case atStart => exact ⟨0, by omega, rfl, RelT.start w⟩
  case round =>
    obtain ⟨k, hk, rfl, hR⟩ := hrel
    by_cases hlt : k < 10
    · go_wp2
      obtain ⟨wo, rfl⟩ : ∃ wo : World, wo = wr := ⟨_, rfl⟩
      go_loopw [3, 9, 10, 11,12,13,14,15,16] (fun _ i _ _ _ _ _ _ _ wr => ∃ j : Nat, j ≤ 10 ∧ i = .int .i64 j ∧ RelT w (fillV k j) wr) (fun _ i _ _ _ _ _ _ _ _ => 10 - (intOf i).toNat)
      case atStart => exact ⟨0, by omega, rfl, hR⟩
      case round =>
        obtain ⟨j, hj, rfl, hS⟩ := hrel
        by_cases hjt : j < 10
        · have hc := hS.cell (k * 10 + j) (by omega)
          have hf := hS.frozen (k * 10 + j)
          go_wp2
          go_roundw
          case rel => exact ⟨j + 1, by omega, by go_num, hS.step hjt⟩
          case measure => simp [intOf]; omega
        · obtain rfl : j = 10 := by omega
          by_cases hk0 : k = 0
          · subst hk0
            go_wp2
            go_roundw
            case rel => exact ⟨1, by omega, by go_num, hS.row0⟩
            case measure => simp [intOf]
          · have hc8 := hS.cell (k * 10 + 8) (by omega)
            have hf8 := hS.frozen (k * 10 + 8)
            have hc9 := hS.cell (k * 10 + 9) (by omega)
            have hf9 := hS.frozen (k * 10 + 9)
            go_wp2
            go_roundw
            case rel => exact ⟨k + 1, by omega, by go_num, hS.rowk (by omega)⟩
            case measure => simp [intOf]; omega
    · obtain rfl : k = 10 := by omega
      have hB : Below w.heap.size w wr := hR.2.2.2
      obtain ⟨tt, fr, hg⟩ := hT
      have hg1 : wr.heap[1]? = some (.cells tripCells tt fr) := by
        rw [hB.block _ (Array.getElem?_eq_some_iff.1 hg).1]; exact hg
      clear hg
      have HG := Lib.hid hg1
      clear hg1
      go_wp2_with (refine wpList_load_row rfl 42 _ rfl 1 rfl tt _ fr _ HG.out Tryd.underlying42 rfl (by kernel_rfl) ?_)
      have hR3 : RelT w (tripV 0) wr := hR.congr fun _ _ => rfl
      clear hR HG hB
      have hz41 := zero41
      obtain ⟨wo, rfl⟩ : ∃ wo : World, wo = wr := ⟨_, rfl⟩
      go_loopw [5, 27, 28, 29, 30, 31, 32, 33, 34, 35, 36, 37, 38] (fun _ i _ _ _ _ _ _ _ _ _ _ _ wr => ∃ j : Nat, j ≤ 16 ∧ i = .int .i64 j ∧ RelT w (tripV j) wr) (fun _ i _ _ _ _ _ _ _ _ _ _ _ _ => 16 - (intOf i).toNat)
      case atStart => exact ⟨0, by omega, rfl, hR3⟩
      case round =>
        clear hR3
        obtain ⟨j, hj, rfl, hS⟩ := hrel
        by_cases hjt : j < 16
        · have hix := tripIx j hjt
          have hA := tripA_lt j hjt
          have hB := tripB_lt j hjt
          go_wp2
          have hc := fun o => (hS.alloc o).cell (tripA j * 10 + tripB j) (by omega)
          have hf := fun o => (hS.alloc o).frozen (tripA j * 10 + tripB j)
          have hsz := hS.1
          go_region
          go_wp2
          go_roundw
          case rel => exact ⟨j + 1, by omega, by go_num, (hS.alloc _).trip.drew⟩
          case measure => simp [intOf]; omega
        · obtain rfl : j = 16 := by omega
          obtain ⟨s1, s2, s3, s4⟩ := hS
          have H1 := Lib.hid s1
          have H2 := Lib.hid s2
          have H3 := Lib.hid s3
          clear s1 s2 s3
          go_wp2_with (first | (refine wpList_load_row rfl 36 (.tmp 1) rfl (w.heap.size + 1) rfl 36 _ (0, 0) _ H3.out Tryd.underlying36 rfl (by kernel_rfl) ?_) | (refine wpList_store_row rfl 36 (.tmp 0) (.tmp 39) rfl w.heap.size _ rfl rfl 36 _ H2.out (by kernel_rfl) (by kernel_rfl) (by kernel_rfl) ?_))
          refine bodyPost_ret (v := .agg (tabOf (tripV 16))) (results_cell_row (p := 0) (ty := 36) rfl _ _ w.heap.size 36 _ (0, 0) _ rfl (setRow_heap _ _ _ _ _ _ H2.out) Tryd.underlying36 rfl (by kernel_rfl)) rfl ⟨rfl, below_setRow s4 _ _ (Nat.le_refl _)⟩
end Go.Proofs.YtnchhniadacjfaaDoor
