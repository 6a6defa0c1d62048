/- A span in a block of its own beside a slice that grows. -/
import Derived.Test.YtncjeleabpodaaaRgKit
namespace Go.Proofs.Ytncjeleabpodaaa
open Go.RowKit Go.Shelf
/-- What the inner loops keep: x in block X, the list out. -/
structure WI (N X : Nat) (x1 x2 : Int) (w : World) (v : Value) (out : List Sp) (W : World) : Prop where
  own : OwnSp W N v out
  x0 : At X 0 (.int .i64 x1) W
  x1 : At X 1 (.int .i64 x2) W
  ne : v.ownBlock ≠ some X
  below : Below N w W
theorem WI.new {N : Nat} {w W : World} {v : Value} {out : List Sp} (h : OwnSp W N v out) (hb : Below N w W) (hN : N ≤ W.heap.size) (x1 x2 : Int) : WI N W.heap.size x1 x2 w v out (W.alloc (.cells #[.int .i64 x1, .int .i64 x2] 51)) :=
  ⟨h.alloc _, At.new _ rfl rfl, At.new _ rfl rfl, fun e => by have := (h.lt _ e).2; omega, hb.alloc hN _⟩
theorem WI.cells {N X : Nat} {x1 x2 : Int} {w : World} {v : Value} {out : List Sp} {W : World} (h : WI N X x1 x2 w v out W) : W.cell? ⟨X, 0, none⟩ = some (.int .i64 x1) ∧ W.cell? ⟨X, 1, none⟩ = some (.int .i64 x2) := ⟨h.x0.1, h.x1.1⟩
theorem WI.drewN {N X : Nat} {x1 x2 : Int} {w : World} {v : Value} {out : List Sp} {W : World} (h : WI N X x1 x2 w v out W) (n : Nat) : WI N X x1 x2 w v out (W.drewN n) :=
  ⟨h.own, h.x0, h.x1, h.ne, ⟨h.below.os, h.below.tape, h.below.output, h.below.size, h.below.block⟩⟩
theorem WI.alloc {N X : Nat} {x1 x2 : Int} {w : World} {v : Value} {out : List Sp} {W : World} (h : WI N X x1 x2 w v out W) (hN : N ≤ W.heap.size) (o : Obj) : WI N X x1 x2 w v out (W.alloc o) :=
  ⟨h.own.alloc _, h.x0.alloc _, h.x1.alloc _, h.ne, h.below.alloc hN _⟩
theorem WI.app {N X : Nat} {x1 x2 : Int} {w : World} {v v' : Value} {out out' : List Sp} {W W' : World} (h : WI N X x1 x2 w v out W) (hN : N ≤ w.heap.size) (ho : OwnSp W' N v' out') (hg : W.grownBy W' v.ownBlock) (hb : v'.ownBlock = v.ownBlock ∨ ∃ k, v'.ownBlock = some k ∧ W.heap.size ≤ k) : WI N X x1 x2 w v' out' W' := by
  refine ⟨ho, h.x0.grown hg h.ne, h.x1.grown hg h.ne, ?_, h.below.trans (grown_below hg (Nat.le_trans hN h.below.size) (fun k e => (h.own.lt k e).1))⟩
  rcases hb with e | ⟨k, e, hk⟩
  · rw [e]; exact h.ne
  · rw [e]; intro e2; cases e2; have := h.x0.lt; omega
theorem WI.set0 {N X : Nat} {x1 x2 : Int} {w : World} {v : Value} {out : List Sp} {W : World} (h : WI N X x1 x2 w v out W) (u : Int) (hN : N ≤ X := by omega) : WI N X u x2 w v out (W.setCell ⟨X, 0, none⟩ (.int .i64 u)) :=
  ⟨h.own.setCell _ _ _ h.ne, h.x0.set _, h.x1.other _ _ (by intro e; cases e), h.ne, h.below.setCell (p := ⟨X, 0, none⟩) hN _⟩
theorem WI.set1 {N X : Nat} {x1 x2 : Int} {w : World} {v : Value} {out : List Sp} {W : World} (h : WI N X x1 x2 w v out W) (u : Int) (hN : N ≤ X := by omega) : WI N X x1 u w v out (W.setCell ⟨X, 1, none⟩ (.int .i64 u)) :=
  ⟨h.own.setCell _ _ _ h.ne, h.x0.other _ _ (by intro e; cases e), h.x1.set _, h.ne, h.below.setCell (p := ⟨X, 1, none⟩) hN _⟩
theorem canonF_take2 {e : Int} {L : List Sp} (h : canonF e L = true) (k : Nat) : canonF e (L.take k) = true := by
  induction L generalizing e k with
  | nil => rw [List.take_nil]; rfl
  | cons x l ih =>
    cases k with
    | zero => rfl
    | succ k => rw [canonF_cons] at h; rw [List.take_succ_cons, canonF_cons]; exact ⟨h.1, ih h.2 k⟩
theorem cell_grown {W W' : World} {r : Option Nat} {B i : Nat} {v : Value} (hg : W.grownBy W' r) (hc : W.cell? ⟨B, i, none⟩ = some v) (hr : r ≠ some B) : W'.cell? ⟨B, i, none⟩ = some v :=
  (World.cell?_of_block (a := ⟨B, i, none⟩) (hg.block B (block_lt_of_cell hc) (fun e => hr e.symm))).trans hc
end Go.Proofs.Ytncjeleabpodaaa
