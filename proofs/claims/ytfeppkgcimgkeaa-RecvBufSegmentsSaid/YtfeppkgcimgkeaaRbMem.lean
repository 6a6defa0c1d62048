/- A receive buffer in memory. -/
import Derived.Test.YtfeppkgcimgkeaaRbFill
import Derived.Test.YtfeppkgcimgkeaaRgAdd
import Derived.BigQuiet
namespace Go.Proofs.Ytfeppkgcimgkeaa
open Go.RowKit Go.Shelf
def bxCells (R : Nat) (b : Bx) (a : Option Addr) (cap : Nat) : Array Value := #[.slice (some ⟨R, 0, none⟩) b.ring.length b.ring.length, .int .i64 b.rd, .int .i64 b.nx, .slice a b.bl.length cap, .int .i64 b.nw]
/-- The list of blocks lies apart from the buffer's own blocks, from block lb on. -/
def Apart (B R lb : Nat) (bl : List Sp) (a : Option Addr) : Prop := (∀ ad, a = some ad → ad = ⟨ad.block, ad.off, none⟩) ∧ (0 < bl.length → ∀ ad, a = some ad → ad.block ≠ B ∧ ad.block ≠ R ∧ lb ≤ ad.block)
/-- Block B holds the buffer b, whose ring is block R. -/
def BoxAt (B R lb : Nat) (b : Bx) (w : World) : Prop :=
  B ≠ R ∧ RingAt R b.ring w ∧ ∃ a cap, w.heap[B]? = some (.cells (bxCells R b a cap) 64 (0, 0)) ∧ SpAt w w.heap.size a b.bl ∧ b.bl.length ≤ cap ∧ Apart B R lb b.bl a
/-- Of the blocks that were there, only B and R may have changed. -/
structure Chg2 (B R : Nat) (w w' : World) : Prop where
  os : w'.os = w.os
  tape : w'.tape = w.tape
  output : w'.output = w.output
  size : w.heap.size ≤ w'.heap.size
  block : ∀ k, k < w.heap.size → k ≠ B → k ≠ R → w'.heap[k]? = w.heap[k]?
theorem Chg2.refl (B R : Nat) (w : World) : Chg2 B R w w := ⟨rfl, rfl, rfl, Nat.le_refl _, fun _ _ _ _ => rfl⟩
theorem Chg2.trans {B R : Nat} {a b c : World} (h : Chg2 B R a b) (k : Chg2 B R b c) : Chg2 B R a c :=
  ⟨k.os.trans h.os, k.tape.trans h.tape, k.output.trans h.output, Nat.le_trans h.size k.size, fun i hi hB hR => (k.block i (Nat.lt_of_lt_of_le hi h.size) hB hR).trans (h.block i hi hB hR)⟩
theorem Chg2.of1 {B R : Nat} {a b : World} (h : Chg B a b) : Chg2 B R a b := ⟨h.os, h.tape, h.output, h.size, fun i hi hB _ => h.block i hi hB⟩
theorem Chg2.of2 {B R : Nat} {a b : World} (h : Chg R a b) : Chg2 B R a b := ⟨h.os, h.tape, h.output, h.size, fun i hi _ hR => h.block i hi hR⟩
theorem Chg2.of_below {B R : Nat} {w w' : World} (h : Below w.heap.size w w') : Chg2 B R w w' := ⟨h.os, h.tape, h.output, h.size, fun k hk _ _ => h.block k hk⟩
theorem Chg2.below {B R N : Nat} {w w' : World} (h : Chg2 B R w w') (hB : N ≤ B) (hR : N ≤ R) (hs : N ≤ w.heap.size) : Below N w w' := ⟨h.os, h.tape, h.output, h.size, fun k hk => h.block k (by omega) (by omega) (by omega)⟩
theorem BoxAt.lt {B R lb : Nat} {b : Bx} {w : World} (h : BoxAt B R lb b w) : B < w.heap.size ∧ R < w.heap.size := by
  obtain ⟨_, hr, a, cap, hb, _⟩ := h
  exact ⟨(Array.getElem?_eq_some_iff.1 hb).1, (Array.getElem?_eq_some_iff.1 hr).1⟩
theorem BoxAt.ats {B R lb : Nat} {b : Bx} {w : World} (h : BoxAt B R lb b w) : ∃ a cap, At B 0 (.slice (some ⟨R, 0, none⟩) b.ring.length b.ring.length) w ∧ At B 1 (.int .i64 b.rd) w ∧ At B 2 (.int .i64 b.nx) w ∧ At B 3 (.slice a b.bl.length cap) w ∧ At B 4 (.int .i64 b.nw) w ∧ SpAt w w.heap.size a b.bl ∧ b.bl.length ≤ cap ∧ Apart B R lb b.bl a := by
  obtain ⟨_, _, a, cap, hb, h1, h2, h3⟩ := h
  have c : ∀ i v, (bxCells R b a cap)[i]? = some v → At B i v w := fun i v hv => ⟨by rw [cell_of_row _ _ _ _ _ _ hb]; exact hv, frozen_of_row _ _ _ _ _ hb⟩
  exact ⟨a, cap, c 0 _ rfl, c 1 _ rfl, c 2 _ rfl, c 3 _ rfl, c 4 _ rfl, h1, h2, h3⟩
theorem BoxAt.below {B R lb : Nat} {b : Bx} {w w' : World} (h : BoxAt B R lb b w) (hb : Below w.heap.size w w') : BoxAt B R lb b w' := by
  have hl := h.lt
  obtain ⟨h0, hr, a, cap, hbk, h1, h2, h3⟩ := h
  exact ⟨h0, (hb.block R hl.2).trans hr, a, cap, (hb.block B hl.1).trans hbk, (h1.below hb).mono hb.size, h2, h3⟩
theorem BoxAt.alloc {B R lb : Nat} {b : Bx} {w : World} (h : BoxAt B R lb b w) (o : Obj) : BoxAt B R lb b (w.alloc o) := h.below ((Below.refl _ w).alloc (Nat.le_refl _) o)
theorem BoxAt.drew {B R lb : Nat} {b : Bx} {w : World} (h : BoxAt B R lb b w) : BoxAt B R lb b w.drew := h.below (Below.refl _ w).drew
theorem BoxAt.other {B R C lb : Nat} {b : Bx} {w w' : World} (h : BoxAt B R lb b w) (hc : Chg C w w') (hB : C ≠ B) (hR : C ≠ R) (hlb : C < lb) : BoxAt B R lb b w' := by
  have hl := h.lt
  obtain ⟨h0, hr, a, cap, hbk, h1, h2, h3⟩ := h
  refine ⟨h0, (hc.block R hl.2 (Ne.symm hR)).trans hr, a, cap, (hc.block B hl.1 (Ne.symm hB)).trans hbk, ⟨h1.small, fun hp => ?_⟩, h2, h3⟩
  obtain ⟨bb, off, ha, hb, hcs⟩ := h1.cells hp
  have hne : bb ≠ C := by have := (h3.2 hp _ ha).2.2; dsimp only at this; omega
  have hk := hc.block bb hb hne
  exact ⟨bb, off, ha, Nat.lt_of_lt_of_le hb hc.size, fun i hi => ⟨(World.cell?_of_block (a := ⟨bb, _, none⟩) hk).trans (hcs i hi).1, (World.cell?_of_block (a := ⟨bb, _, none⟩) hk).trans (hcs i hi).2⟩⟩
/-- A number in the buffer's own block is stored. -/
theorem BoxAt.set {B R lb : Nat} {b b' : Bx} {w : World} (h : BoxAt B R lb b w) (i : Nat) (v : Value) (hr : b'.ring = b.ring) (hbl : b'.bl = b.bl) (he : ∀ a cap, (bxCells R b a cap).setIfInBounds i v = bxCells R b' a cap) : BoxAt B R lb b' (w.setCell ⟨B, i, none⟩ v) := by
  have hl := h.lt
  obtain ⟨h0, hrg, a, cap, hbk, h1, h2, h3⟩ := h
  refine ⟨h0, ?_, a, cap, ?_, ?_, by rw [hbl]; exact h2, by rw [hbl]; exact h3⟩
  · unfold RingAt; rw [hr, heap_setCell_other w ⟨B, i, none⟩ R v (Ne.symm h0)]; exact hrg
  · rw [heap_setCell_same _ _ _ _ _ _ hbk, he]
  · rw [hbl]
    refine ⟨h1.small, fun hp => ?_⟩
    obtain ⟨bb, off, ha, hb, hcs⟩ := h1.cells hp
    have hne := (h3.2 hp _ ha).1
    exact ⟨bb, off, ha, by simp [World.setCell]; exact hb, fun i' hi => ⟨by rw [World.cell?_setCell_other _ _ _ _ (fun e => hne (congrArg Addr.block e).symm)]; exact (hcs i' hi).1, by rw [World.cell?_setCell_other _ _ _ _ (fun e => hne (congrArg Addr.block e).symm)]; exact (hcs i' hi).2⟩⟩
/-- The list of blocks is stored. -/
theorem BoxAt.setBl {B R lb : Nat} {b : Bx} {w : World} (h : BoxAt B R lb b w) (a' : Option Addr) (cap' : Nat) (L : List Sp) (hs : SpAt w w.heap.size a' L) (hcap : L.length ≤ cap') (hap : Apart B R lb L a') : BoxAt B R lb { b with bl := L } (w.setCell ⟨B, 3, none⟩ (.slice a' L.length cap')) := by
  obtain ⟨h0, hrg, a, cap, hbk, h1, h2, h3⟩ := h
  refine ⟨h0, ?_, a', cap', ?_, ?_, hcap, hap⟩
  · unfold RingAt; rw [heap_setCell_other w ⟨B, 3, none⟩ R _ (Ne.symm h0)]; exact hrg
  · rw [heap_setCell_same _ _ _ _ _ _ hbk]; rfl
  · refine ⟨hs.small, fun hp => ?_⟩
    obtain ⟨bb, off, ha, hb, hcs⟩ := hs.cells hp
    have hne := (hap.2 hp _ ha).1
    exact ⟨bb, off, ha, by simp [World.setCell]; exact hb, fun i' hi => ⟨by rw [World.cell?_setCell_other _ _ _ _ (fun e => hne (congrArg Addr.block e).symm)]; exact (hcs i' hi).1, by rw [World.cell?_setCell_other _ _ _ _ (fun e => hne (congrArg Addr.block e).symm)]; exact (hcs i' hi).2⟩⟩
/-- The ring is written. -/
theorem BoxAt.ring {B R lb : Nat} {b : Bx} {rg : List UInt8} {w w' : World} (h : BoxAt B R lb b w) (hlen : rg.length = b.ring.length) (hr : RingAt R rg w') (hc : Chg R w w') : BoxAt B R lb { b with ring := rg } w' := by
  have hl := h.lt
  obtain ⟨h0, hrg, a, cap, hbk, h1, h2, h3⟩ := h
  refine ⟨h0, hr, a, cap, ?_, ⟨h1.small, fun hp => ?_⟩, h2, h3⟩
  · rw [hc.block B hl.1 h0, hbk]
    unfold bxCells
    dsimp only
    rw [hlen]
  · obtain ⟨bb, off, ha, hb, hcs⟩ := h1.cells hp
    have hk := hc.block bb hb (h3.2 hp _ ha).2.1
    exact ⟨bb, off, ha, Nat.lt_of_lt_of_le hb hc.size, fun i hi => ⟨(World.cell?_of_block (a := ⟨bb, _, none⟩) hk).trans (hcs i hi).1, (World.cell?_of_block (a := ⟨bb, _, none⟩) hk).trans (hcs i hi).2⟩⟩
theorem end_any (B R lb : Nat) (b : Bx) (w : World) (h : BoxAt B R lb b w) (ok : b.Ok) :
    Calls Try.prog 35 #[.pointer (some ⟨B, 0, none⟩)] w fun e w' => e = .returned (.int .i64 (b.rd + b.ring.length)) ∧ w' = w.drew := by
  obtain ⟨a, cap, ⟨c0, -⟩, ⟨c1, -⟩, -⟩ := h.ats
  have h1 := ok.rd0
  have h2 := ok.small
  have h3 := ok.most
  go_enter Try.func35, Try.ntmps35
  go_wp2
  go_region
  all_goals
    go_wp2
    go_ret
    exact ⟨rfl, rfl⟩
theorem next_any (B R lb : Nat) (b : Bx) (w : World) (h : BoxAt B R lb b w) :
    Calls Try.prog 16 #[.pointer (some ⟨B, 0, none⟩)] w fun e w' => e = .returned (.int .i64 b.nx) ∧ w = w' := by
  obtain ⟨a, cap, -, -, ⟨c2, -⟩, -⟩ := h.ats
  go_enter Try.func16, Try.ntmps16
  go_wp2
  go_ret
  exact ⟨rfl, rfl⟩
end Go.Proofs.Ytfeppkgcimgkeaa
