/- What the loops over spans keep in memory; how a function with such a loop returns. -/
import Derived.Test.YtncjeleabpodaaaRgFns
import Derived.WalkMore
namespace Go.Proofs.Ytncjeleabpodaaa
open Go.RowKit Go.Shelf
/-- Cell i of block B holds v, and may be written. -/
def At (B i : Nat) (v : Value) (W : World) : Prop := W.cell? ⟨B, i, none⟩ = some v ∧ W.frozen? ⟨B, i, none⟩ = false
theorem At.lt {B i : Nat} {v : Value} {W : World} (h : At B i v W) : B < W.heap.size := block_lt_of_cell h.1
theorem At.own {B i : Nat} {v : Value} {A A' : World} {row : Option Nat} (h : At B i v A) (hg : A.grownBy A' row) (hr : ∀ r, row = some r → ∃ o : Obj, A.heap[r]? = some o ∧ o.isCells = false) : At B i v A' :=
  ⟨cell_kept h.1 hg hr, (frozen_kept h.1 hg hr).trans h.2⟩
theorem At.grown {B i : Nat} {v : Value} {A A' : World} {row : Option Nat} (h : At B i v A) (hg : A.grownBy A' row) (hr : row ≠ some B) : At B i v A' := by
  have hb := hg.block B h.lt (fun e => hr e.symm)
  exact ⟨(World.cell?_of_block (a := ⟨B, i, none⟩) hb).trans h.1, (World.frozen?_of_block (a := ⟨B, i, none⟩) hb).trans h.2⟩
theorem At.alloc {B i : Nat} {v : Value} {W : World} (h : At B i v W) (o : Obj) : At B i v (W.alloc o) := h.grown (World.grownBy_alloc W o none) (by simp)
theorem At.below {B i : Nat} {v : Value} {W W' : World} {N : Nat} (h : At B i v W) (hb : Below N W W') (hN : B < N) : At B i v W' :=
  ⟨(hb.cell (p := ⟨B, i, none⟩) hN).trans h.1, (hb.frozen (p := ⟨B, i, none⟩) hN).trans h.2⟩
theorem At.set {B i : Nat} {v : Value} {W : World} (h : At B i v W) (u : Value) : At B i u (W.setCell ⟨B, i, none⟩ u) :=
  ⟨World.cell?_setCell_same _ _ _ h.1, by rw [World.frozen?_setCell]; exact h.2⟩
theorem At.other {B i : Nat} {v : Value} {W : World} (h : At B i v W) (p : Addr) (u : Value) (hp : p ≠ ⟨B, i, none⟩) : At B i v (W.setCell p u) :=
  ⟨by rw [World.cell?_setCell_other _ _ _ _ hp]; exact h.1, by rw [World.frozen?_setCell]; exact h.2⟩
theorem At.ob {B C i j : Nat} {v : Value} {W : World} (h : At B i v W) (u : Value) (hp : C ≠ B) : At B i v (W.setCell ⟨C, j, none⟩ u) := h.other _ _ (by intro e; cases e; exact hp rfl)
theorem At.new {B : Nat} {W : World} {vs : Array Value} {i : Nat} {v : Value} (t : TypeId) (hB : B = W.heap.size) (hv : vs[i]? = some v) : At B i v (W.alloc (.cells vs t)) := by
  subst hB
  refine ⟨?_, ?_⟩
  · rw [cell_of_row _ _ _ _ _ _ (heap_alloc_new _ _)]; exact hv
  · simp
theorem OwnSp.row {w : World} {base : Nat} {v : Value} {L : List Sp} (h : OwnSp w base v L) {k : Nat} (hk : v.ownBlock = some k) : ∃ o : Obj, w.heap[k]? = some o ∧ o.isCells = true := by
  rcases h.2 with ⟨rfl, _⟩ | ⟨g, cap, cur, rfl, _, hg, _⟩
  · cases hk
  · cases hk; exact ⟨_, hg, rfl⟩
theorem OwnSp.own {A A' : World} {base : Nat} {v : Value} {L : List Sp} (h : OwnSp A base v L) {row : Option Nat} (hg : A.grownBy A' row) (hr : ∀ r, row = some r → ∃ o : Obj, A.heap[r]? = some o ∧ o.isCells = false) : OwnSp A' base v L := by
  refine h.kept hg ?_
  cases hv : v.ownBlock with
  | none => exact .inl rfl
  | some k =>
    refine .inr (fun e => ?_)
    obtain ⟨o, h1, h2⟩ := h.row hv
    obtain ⟨o', h3, h4⟩ := hr k e.symm
    rw [h1] at h3; cases h3; rw [h2] at h4; cases h4
theorem OwnSp.setCell {W : World} {base : Nat} {v : Value} {L : List Sp} (h : OwnSp W base v L) (C j : Nat) (u : Value) (hne : v.ownBlock ≠ some C) : OwnSp (W.setCell ⟨C, j, none⟩ u) base v L := by
  refine h.kept (row := some C) ⟨rfl, rfl, rfl, by simp [World.setCell], fun k _ hk => heap_setCell_other W ⟨C, j, none⟩ k u (fun e => hk (by rw [e]))⟩ ?_
  exact .inr hne
theorem keeps_own {W W' : World} {base : Nat} {v : Value} {L : List Sp} (h : OwnSp W base v L) (hg : W.grownBy W' v.ownBlock) : KeepsOthers W W' := by
  refine KeepsOthers.of_grownBy hg ?_
  intro j o hj ho
  obtain ⟨o', h1, h2⟩ := h.row hj
  rw [ho] at h1; cases h1; exact h2
theorem keeps_below {W W' : World} (h : Below W.heap.size W W') : KeepsOthers W W' :=
  ⟨h.size, fun k o hk _ => by rw [h.block k (Array.getElem?_eq_some_iff.1 hk).1]; exact hk⟩
theorem below_own {N B : Nat} {w A A' : World} {row : Option Nat} (h : Below N w A) (hg : A.grownBy A' row) (hr : ∀ r, row = some r → B ≤ r ∧ ∃ o : Obj, A.heap[r]? = some o ∧ o.isCells = false) (hN : N ≤ w.heap.size) (hB : N ≤ B) : Below N w A' :=
  h.trans (grown_below hg (Nat.le_trans hN h.size) (fun k e => Nat.le_trans hB (hr k e).1))
/-- A function whose one result lies in a slot returns, its loop's deferred list being empty. -/
theorem ret_marks {n : Nat} {P : Program} {fn : Func} {R : Ending → World → Prop} {t : Tmp} {tm : Array Value} {D : Nat} {W : World} (h : fn.results = #[.tmp t]) (hD : W.heap[D]? = some (.deferred (some [])))
    (hR : R (.returned (tm.getD t undef)) (W.putObj D (.deferred none))) : bodyPostM Fence.wide n P fn R .ret { tmps := tm, defers := [{ target := .collected D, args := #[] }] } W := by
  refine ⟨by simp, .inl ⟨_, _, rfl, run_takeDeferred hD, ?_⟩⟩
  exact ⟨_, results_tmp h tm P _, hR⟩
theorem ret_plain {n : Nat} {P : Program} {fn : Func} {R : Ending → World → Prop} {t : Tmp} {tm : Array Value} {W : World} (h : fn.results = #[.tmp t])
    (hR : R (.returned (tm.getD t undef)) W) : bodyPostM Fence.wide n P fn R .ret { tmps := tm, defers := [] } W := ⟨_, results_tmp h tm P _, hR⟩
theorem below_take {N : Nat} {w W : World} {D : Nat} (h : Below N w W) (hN : N ≤ w.heap.size) (hND : N ≤ D) : Below N w (W.putObj D (.deferred none)) :=
  h.trans (grown_below (grownBy_putObj' W D _) (Nat.le_trans hN h.size) (fun k e => by cases e; exact hND))
/-- A walk that does not panic may be made as if a panic were false. -/
def noPanic (Q : Exit → Act → World → Prop) : Exit → Act → World → Prop
  | .panic _, _, _ => False
  | e, a, w => Q e a w
theorem noPanic_le (Q : Exit → Act → World → Prop) : ∀ e a w, noPanic Q e a w → Q e a w := by
  intro e a w h
  cases e <;> first | exact h | exact h.elim
/-- A region's end, whatever its order. -/
def onNormal (F : Act → World → Prop) : Exit → Act → World → Prop
  | .normal, a, w => F a w
  | _, _, _ => False
theorem onNormal_le {F : Act → World → Prop} {Q : Exit → Act → World → Prop} (h : ∀ a w, F a w → Q .normal a w) : ∀ e a w, onNormal F e a w → Q e a w := by
  intro e a w k
  cases e <;> first | exact h _ _ k | exact k.elim
end Go.Proofs.Ytncjeleabpodaaa
