/- link.Decode: what its loop keeps in memory. -/
import Derived.Test.YtldmkoicjpkdiaaDoorLkIter
import Derived.WalkMore
namespace Go.Proofs.YtldmkoicjpkdiaaDoor
open Go.RowKit Go.Shelf
attribute [local go_sem] Oper.semAt_some
def foN : Option Nat → Int
  | some n => n
  | none => 0
def foE (a : Addr) : Option Nat → Value
  | some _ => .nilIface
  | none => .iface 91 (.pointer (some a))
theorem foV_eq (a : Addr) (x : Option Nat) : foV a x = #[.int .i64 (foN x), foE a x] := by cases x <;> rfl
set_option maxHeartbeats 400000 in
theorem fixed_in (n : Nat) (s : ByteArray) (w : World) :
    CallsIn Fence.wide n Tryd.prog 27 #[.agg #[.string s]] w fun e w' => e = .returned (.func (.func 39) #[] #[.pointer (some ⟨w.heap.size, 0, none⟩)]) ∧ w' = w.alloc (.cells #[.string s] 51) := by
  refine callsIn_of_wp Tryd.func27 rfl trivial ?_ rfl
  simp only [Tryd.ntmps27, List.size_toArray, List.length_cons, List.length_nil, Nat.reduceAdd, Nat.reduceSub, Array.replicate_succ, Array.replicate_zero, List.push_toArray, List.append_toArray, List.nil_append, List.cons_append]
  gi_wp2
  go_ret
  exact ⟨rfl, rfl⟩
/-- The four fields' cells, and the count. -/
def FldAt (B : Nat) (ns : List Nat) (W : World) : Prop :=
  (∀ i, i < 4 → W.cell? ⟨B, i, none⟩ = some (.int .i64 (ns.getD i 0 : Nat)) ∧ W.frozen? ⟨B, i, none⟩ = false) ∧ (W.cell? ⟨B + 1, 0, none⟩ = some (.int .i64 (ns.length : Nat)) ∧ W.frozen? ⟨B + 1, 0, none⟩ = false)
/-- The reader's box, and the result's. -/
def DecK (N : Nat) (s : ByteArray) (W : World) : Prop :=
  W.cell? ⟨N + 1, 0, none⟩ = some (.string s) ∧ (∀ i, i < 4 → ∃ v, W.cell? ⟨N, i, none⟩ = some v ∧ W.frozen? ⟨N, i, none⟩ = false)
theorem fldAt_own {B : Nat} {ns : List Nat} {A A' : World} {row : Option Nat} (h : FldAt B ns A) (hg : A.grownBy A' row) (hr : ∀ r, row = some r → ∃ o : Obj, A.heap[r]? = some o ∧ o.isCells = false) : FldAt B ns A' :=
  ⟨fun i hi => ⟨cell_kept (h.1 i hi).1 hg hr, (frozen_kept (h.1 i hi).1 hg hr).trans (h.1 i hi).2⟩, cell_kept h.2.1 hg hr, (frozen_kept h.2.1 hg hr).trans h.2.2⟩
theorem decK_own {N : Nat} {s : ByteArray} {A A' : World} {row : Option Nat} (h : DecK N s A) (hg : A.grownBy A' row) (hr : ∀ r, row = some r → ∃ o : Obj, A.heap[r]? = some o ∧ o.isCells = false) : DecK N s A' :=
  ⟨cell_kept h.1 hg hr, fun i hi => by obtain ⟨v, h1, h2⟩ := h.2 i hi; exact ⟨v, cell_kept h1 hg hr, (frozen_kept h1 hg hr).trans h2⟩⟩
theorem fldAt_push {B : Nat} {ns : List Nat} {W : World} (h : FldAt B ns W) (m : Nat) :
    FldAt B (ns ++ [m]) ((W.setCell ⟨B, ns.length, none⟩ (.int .i64 (m : Int))).setCell ⟨B + 1, 0, none⟩ (.int .i64 ((ns.length : Int) + 1))) := by
  refine ⟨fun i hi => ⟨?_, by rw [World.frozen?_setCell, World.frozen?_setCell]; exact (h.1 i hi).2⟩, ?_, by rw [World.frozen?_setCell, World.frozen?_setCell]; exact h.2.2⟩
  · rw [World.cell?_setCell_other _ _ _ _ (by simp)]
    by_cases e : i = ns.length
    · subst e
      rw [World.cell?_setCell_same _ _ _ (h.1 _ hi).1]
      simp [List.getD]
    · rw [World.cell?_setCell_other _ _ _ _ (by simp <;> omega), (h.1 i hi).1]
      by_cases c : i < ns.length
      · simp [List.getD, List.getElem?_append_left c]
      · simp [List.getD, List.getElem?_eq_none (show ns.length ≤ i by omega), List.getElem?_append_right (show ns.length ≤ i by omega), List.getElem?_eq_none (show [m].length ≤ i - ns.length by simp; omega)]
  · have hc : (W.setCell ⟨B, ns.length, none⟩ (.int .i64 (m : Int))).cell? ⟨B + 1, 0, none⟩ = some (.int .i64 (ns.length : Nat)) := by rw [World.cell?_setCell_other _ _ _ _ (by simp)]; exact h.2.1
    rw [World.cell?_setCell_same _ _ _ hc]
    simp
theorem decK_set {N : Nat} {s : ByteArray} {W : World} (h : DecK N s W) {p : Addr} (hp : N + 1 < p.block) (v : Value) : DecK N s (W.setCell p v) := by
  refine ⟨by rw [World.cell?_setCell_other _ _ _ _ (by intro e; subst e; simp at hp)]; exact h.1, fun i hi => ?_⟩
  obtain ⟨u, h1, h2⟩ := h.2 i hi
  exact ⟨u, by rw [World.cell?_setCell_other _ _ _ _ (by intro e; subst e; simp at hp; omega)]; exact h1, by rw [World.frozen?_setCell]; exact h2⟩
def decI (N : Nat) (s : ByteArray) (w : World) (pre : List (Option Nat)) (W : World) : Prop := ((∃ ns : List Nat, pre = ns.map some ∧ FldAt (N + 1 + 1) ns W) ∧ DecK N s W) ∧ Below N w W
def decX (N : Nat) (s : ByteArray) (w : World) (c : Code) (pre : List (Option Nat)) (W : World) : Prop := ((c = .exit 0 ∧ ∃ ns : List Nat, pre = ns.map some ++ [none] ∧ FldAt (N + 1 + 1) ns W) ∧ DecK N s W) ∧ Below N w W
/-- The world in which the loop begins. -/
def decW (w : World) (s : ByteArray) : World :=
  ((((w.alloc (.cells #[.int .i64 0, .int .i64 0, .int .i64 0, .string ⟨#[]⟩] 23)).alloc (.cells #[.string s] 51)).alloc (.cells #[.int .i64 0, .int .i64 0, .int .i64 0, .int .i64 0] 52)).alloc (.cells #[.int .i64 0] 3)).alloc (.cells #[.string s] 51)
theorem decW_size (w : World) (s : ByteArray) : (decW w s).heap.size = w.heap.size + 1 + 1 + 1 + 1 + 1 := by unfold decW; simp
theorem decW_box (w : World) (s : ByteArray) : (decW w s).cell? ⟨w.heap.size + 1 + 1 + 1 + 1, 0, none⟩ = some (.string s) := by unfold decW; go_simp
theorem decW_start (w : World) (s : ByteArray) : decI w.heap.size s w [] (decW w s) := by
  refine ⟨⟨⟨[], rfl, ⟨fun i hi => ?_, ?_, ?_⟩⟩, ?_, fun i hi => ?_⟩, ?_⟩
  · rcases (show i = 0 ∨ i = 1 ∨ i = 2 ∨ i = 3 by omega) with rfl | rfl | rfl | rfl <;> (unfold decW; go_simp)
  · unfold decW; go_simp
  · unfold decW; go_simp
  · unfold decW; go_simp
  · rcases (show i = 0 ∨ i = 1 ∨ i = 2 ∨ i = 3 by omega) with rfl | rfl | rfl | rfl <;> (unfold decW; go_simp)
  · unfold decW
    exact (((((Below.refl _ w).alloc (Nat.le_refl _) _).alloc (by simp) _).alloc (by simp; omega) _).alloc (by simp; omega) _).alloc (by simp; omega) _
end Go.Proofs.YtldmkoicjpkdiaaDoor
