/- TCPStateCloseOrders: its walk. -/
import Derived.Test.YtnchhniadacjfaaDoorStSanity
import Derived.Test.YtnchhniadacjfaaDoorStRows
namespace Go.Proofs.YtnchhniadacjfaaDoor
open Go.RowKit
/-- Block B holds the row vs. -/
def Blk (B : Nat) (vs : Array Value) (w : World) : Prop := ∃ t fr, w.heap[B]? = some (.cells vs t fr)
theorem Blk.below {B : Nat} {vs : Array Value} {w w' : World} (h : Blk B vs w) (hb : Below w.heap.size w w') : Blk B vs w' := by
  obtain ⟨t, fr, ht⟩ := h
  exact ⟨t, fr, by rw [hb.block _ (Array.getElem?_eq_some_iff.1 ht).1]; exact ht⟩
theorem Blk.alloc {B : Nat} {vs : Array Value} {w : World} (h : Blk B vs w) (o : Obj) : Blk B vs (w.alloc o) := h.below ((Below.refl _ _).alloc (Nat.le_refl _) _)
theorem Blk.new {B : Nat} {vs : Array Value} {w : World} {t : TypeId} (h : B = w.heap.size) : Blk B vs (w.alloc (.cells vs t)) := by subst h; exact ⟨t, _, heap_alloc_new _ _⟩
theorem Blk.cell {B : Nat} {vs : Array Value} {w : World} (h : Blk B vs w) (i : Nat) (v : Value) (hi : vs[i]? = some v) : w.cell? ⟨B, i, none⟩ = some v := by
  obtain ⟨t, fr, ht⟩ := h
  rw [cell_of_row _ _ _ _ _ _ ht, hi]
set_option maxRecDepth 100000 in
set_option maxHeartbeats 4000000 in
theorem walk_TCPStateCloseOrders (w : World) (z : Int) (hz : (Lit.int .i64 z).wf = true) (h : Triples w ∧ Names w) :
    Calls Tryd.prog 6 #[.int .i64 z] w fun r w' => r = .returned (.bool true) ∧ Below w.heap.size w w' := by
  obtain ⟨hz1, hz2⟩ := wf64 hz
  obtain ⟨hT, hN⟩ := h
  clear hz
  go_enter Tryd.func6, Tryd.ntmps6
  go_wp2_with fail
  refine (sanity_any _ hT hN).mono ?_
  rintro r w0 ⟨rfl, hB0⟩
  go_wp2_with fail
  refine (pick_any z 3 _ hz1 hz2 (by omega) (by omega)).mono ?_
  rintro r w1 ⟨rfl, rfl⟩
  have hp := pickV_bd z 3 (by omega)
  obtain ⟨hp1, hp2⟩ := hp
  generalize pickV z 3 = pv at hp1 hp2 ⊢
  rcases (show pv = 0 ∨ pv = 1 ∨ pv = 2 by omega) with rfl | rfl | rfl
  all_goals clear hp1 hp2 hz1 hz2
  · go_wp2_with fail
    go_loopw [5, 7] (fun s i wr => ((i = .int .i64 0 ∧ s = .int .i64 3) ∨ (i = .int .i64 1 ∧ s = .int .i64 4) ∨ (i = .int .i64 2 ∧ s = .int .i64 5) ∨ (i = .int .i64 3 ∧ s = .int .i64 9) ∨ (i = .int .i64 4 ∧ s = .int .i64 0)) ∧ Blk (w0.heap.size) #[Value.int .i64 5, Value.int .i64 7, Value.int .i64 6, Value.int .i64 9] wr ∧ Below w.heap.size w wr) (fun _ i _ => 5 - (intOf i).toNat)
    case atStart =>
      refine ⟨.inl ⟨rfl, rfl⟩, ?_, (((hB0.alloc hB0.size _).alloc (by have := hB0.size; simp; omega) _).alloc (by have := hB0.size; simp; omega) _).alloc (by have := hB0.size; simp; omega) _⟩
      exact ((((Blk.new (by simp)).alloc _).alloc _).alloc _)
    case round =>
      obtain ⟨hs, hK, hB⟩ := hrel
      rcases hs with ⟨rfl, rfl⟩ | ⟨rfl, rfl⟩ | ⟨rfl, rfl⟩ | ⟨rfl, rfl⟩ | ⟨rfl, rfl⟩
      · have hc := hK.cell 0 _ rfl
        go_wp2_with fail
        refine (step_any 3 5 _ (hT.below hB)).mono ?_
        rintro r w1 ⟨rfl, b1⟩
        rw [show stN 3 5 = 4 by decide +kernel, show stE 3 5 = 0 by decide +kernel]
        have hB1 := hB.trans (b1.mono hB.size)
        have hK1 := hK.below b1
        clear hc b1
        have hc := hK1.cell 0 _ rfl
        go_wp2_with fail
        refine (step_any 4 5 _ (hT.below hB1)).mono ?_
        rintro r w2 ⟨rfl, b2⟩
        rw [show stE 4 5 = 170 by decide +kernel]
        have hB2 := hB1.trans (b2.mono hB1.size)
        have hK2 := hK1.below b2
        clear hc b2
        go_wp2_with fail
        go_roundw
        case rel => exact ⟨.inr (.inl ⟨rfl, rfl⟩), hK2, hB2⟩
        case measure => simp [intOf]
      · have hc := hK.cell 1 _ rfl
        go_wp2_with fail
        refine (step_any 4 7 _ (hT.below hB)).mono ?_
        rintro r w1 ⟨rfl, b1⟩
        rw [show stN 4 7 = 5 by decide +kernel, show stE 4 7 = 0 by decide +kernel]
        have hB1 := hB.trans (b1.mono hB.size)
        have hK1 := hK.below b1
        clear hc b1
        have hc := hK1.cell 1 _ rfl
        go_wp2_with fail
        refine (step_any 5 7 _ (hT.below hB1)).mono ?_
        rintro r w2 ⟨rfl, b2⟩
        rw [show stE 5 7 = 170 by decide +kernel]
        have hB2 := hB1.trans (b2.mono hB1.size)
        have hK2 := hK1.below b2
        clear hc b2
        go_wp2_with fail
        go_roundw
        case rel => exact ⟨.inr (.inr (.inl ⟨rfl, rfl⟩)), hK2, hB2⟩
        case measure => simp [intOf]
      · have hc := hK.cell 2 _ rfl
        go_wp2_with fail
        refine (step_any 5 6 _ (hT.below hB)).mono ?_
        rintro r w1 ⟨rfl, b1⟩
        rw [show stN 5 6 = 9 by decide +kernel, show stE 5 6 = 0 by decide +kernel]
        have hB1 := hB.trans (b1.mono hB.size)
        have hK1 := hK.below b1
        clear hc b1
        have hc := hK1.cell 2 _ rfl
        go_wp2_with fail
        refine (step_any 9 6 _ (hT.below hB1)).mono ?_
        rintro r w2 ⟨rfl, b2⟩
        rw [show stE 9 6 = 170 by decide +kernel]
        have hB2 := hB1.trans (b2.mono hB1.size)
        have hK2 := hK1.below b2
        clear hc b2
        go_wp2_with fail
        go_roundw
        case rel => exact ⟨.inr (.inr (.inr (.inl ⟨rfl, rfl⟩))), hK2, hB2⟩
        case measure => simp [intOf]
      · have hc := hK.cell 3 _ rfl
        go_wp2_with fail
        refine (step_any 9 9 _ (hT.below hB)).mono ?_
        rintro r w1 ⟨rfl, b1⟩
        rw [show stN 9 9 = 0 by decide +kernel, show stE 9 9 = 0 by decide +kernel]
        have hB1 := hB.trans (b1.mono hB.size)
        have hK1 := hK.below b1
        clear hc b1
        have hc := hK1.cell 3 _ rfl
        go_wp2_with fail
        refine (step_any 0 9 _ (hT.below hB1)).mono ?_
        rintro r w2 ⟨rfl, b2⟩
        rw [show stE 0 9 = 170 by decide +kernel]
        have hB2 := hB1.trans (b2.mono hB1.size)
        have hK2 := hK1.below b2
        clear hc b2
        go_wp2_with fail
        go_roundw
        case rel => exact ⟨.inr (.inr (.inr (.inr (⟨rfl, rfl⟩)))), hK2, hB2⟩
        case measure => simp [intOf]
      · go_wp2_with fail
        go_ret
        exact ⟨rfl, hB⟩
  · go_wp2_with fail
    go_loopw [5, 7] (fun s i wr => ((i = .int .i64 0 ∧ s = .int .i64 3) ∨ (i = .int .i64 1 ∧ s = .int .i64 4) ∨ (i = .int .i64 2 ∧ s = .int .i64 7) ∨ (i = .int .i64 3 ∧ s = .int .i64 9) ∨ (i = .int .i64 4 ∧ s = .int .i64 0)) ∧ Blk (w0.heap.size + 1) #[Value.int .i64 5, Value.int .i64 6, Value.int .i64 7, Value.int .i64 9] wr ∧ Below w.heap.size w wr) (fun _ i _ => 5 - (intOf i).toNat)
    case atStart =>
      refine ⟨.inl ⟨rfl, rfl⟩, ?_, (((hB0.alloc hB0.size _).alloc (by have := hB0.size; simp; omega) _).alloc (by have := hB0.size; simp; omega) _).alloc (by have := hB0.size; simp; omega) _⟩
      exact (((Blk.new (by simp)).alloc _).alloc _)
    case round =>
      obtain ⟨hs, hK, hB⟩ := hrel
      rcases hs with ⟨rfl, rfl⟩ | ⟨rfl, rfl⟩ | ⟨rfl, rfl⟩ | ⟨rfl, rfl⟩ | ⟨rfl, rfl⟩
      · have hc := hK.cell 0 _ rfl
        go_wp2_with fail
        refine (step_any 3 5 _ (hT.below hB)).mono ?_
        rintro r w1 ⟨rfl, b1⟩
        rw [show stN 3 5 = 4 by decide +kernel, show stE 3 5 = 0 by decide +kernel]
        have hB1 := hB.trans (b1.mono hB.size)
        have hK1 := hK.below b1
        clear hc b1
        have hc := hK1.cell 0 _ rfl
        go_wp2_with fail
        refine (step_any 4 5 _ (hT.below hB1)).mono ?_
        rintro r w2 ⟨rfl, b2⟩
        rw [show stE 4 5 = 170 by decide +kernel]
        have hB2 := hB1.trans (b2.mono hB1.size)
        have hK2 := hK1.below b2
        clear hc b2
        go_wp2_with fail
        go_roundw
        case rel => exact ⟨.inr (.inl ⟨rfl, rfl⟩), hK2, hB2⟩
        case measure => simp [intOf]
      · have hc := hK.cell 1 _ rfl
        go_wp2_with fail
        refine (step_any 4 6 _ (hT.below hB)).mono ?_
        rintro r w1 ⟨rfl, b1⟩
        rw [show stN 4 6 = 7 by decide +kernel, show stE 4 6 = 0 by decide +kernel]
        have hB1 := hB.trans (b1.mono hB.size)
        have hK1 := hK.below b1
        clear hc b1
        have hc := hK1.cell 1 _ rfl
        go_wp2_with fail
        refine (step_any 7 6 _ (hT.below hB1)).mono ?_
        rintro r w2 ⟨rfl, b2⟩
        rw [show stE 7 6 = 170 by decide +kernel]
        have hB2 := hB1.trans (b2.mono hB1.size)
        have hK2 := hK1.below b2
        clear hc b2
        go_wp2_with fail
        go_roundw
        case rel => exact ⟨.inr (.inr (.inl ⟨rfl, rfl⟩)), hK2, hB2⟩
        case measure => simp [intOf]
      · have hc := hK.cell 2 _ rfl
        go_wp2_with fail
        refine (step_any 7 7 _ (hT.below hB)).mono ?_
        rintro r w1 ⟨rfl, b1⟩
        rw [show stN 7 7 = 9 by decide +kernel, show stE 7 7 = 0 by decide +kernel]
        have hB1 := hB.trans (b1.mono hB.size)
        have hK1 := hK.below b1
        clear hc b1
        have hc := hK1.cell 2 _ rfl
        go_wp2_with fail
        refine (step_any 9 7 _ (hT.below hB1)).mono ?_
        rintro r w2 ⟨rfl, b2⟩
        rw [show stE 9 7 = 170 by decide +kernel]
        have hB2 := hB1.trans (b2.mono hB1.size)
        have hK2 := hK1.below b2
        clear hc b2
        go_wp2_with fail
        go_roundw
        case rel => exact ⟨.inr (.inr (.inr (.inl ⟨rfl, rfl⟩))), hK2, hB2⟩
        case measure => simp [intOf]
      · have hc := hK.cell 3 _ rfl
        go_wp2_with fail
        refine (step_any 9 9 _ (hT.below hB)).mono ?_
        rintro r w1 ⟨rfl, b1⟩
        rw [show stN 9 9 = 0 by decide +kernel, show stE 9 9 = 0 by decide +kernel]
        have hB1 := hB.trans (b1.mono hB.size)
        have hK1 := hK.below b1
        clear hc b1
        have hc := hK1.cell 3 _ rfl
        go_wp2_with fail
        refine (step_any 0 9 _ (hT.below hB1)).mono ?_
        rintro r w2 ⟨rfl, b2⟩
        rw [show stE 0 9 = 170 by decide +kernel]
        have hB2 := hB1.trans (b2.mono hB1.size)
        have hK2 := hK1.below b2
        clear hc b2
        go_wp2_with fail
        go_roundw
        case rel => exact ⟨.inr (.inr (.inr (.inr (⟨rfl, rfl⟩)))), hK2, hB2⟩
        case measure => simp [intOf]
      · go_wp2_with fail
        go_ret
        exact ⟨rfl, hB⟩
  · go_wp2_with fail
    go_loopw [5, 7] (fun s i wr => ((i = .int .i64 0 ∧ s = .int .i64 3) ∨ (i = .int .i64 1 ∧ s = .int .i64 6) ∨ (i = .int .i64 2 ∧ s = .int .i64 8) ∨ (i = .int .i64 3 ∧ s = .int .i64 0)) ∧ Blk (w0.heap.size + 1 + 1) #[Value.int .i64 6, Value.int .i64 5, Value.int .i64 7] wr ∧ Below w.heap.size w wr) (fun _ i _ => 5 - (intOf i).toNat)
    case atStart =>
      refine ⟨.inl ⟨rfl, rfl⟩, ?_, (((hB0.alloc hB0.size _).alloc (by have := hB0.size; simp; omega) _).alloc (by have := hB0.size; simp; omega) _).alloc (by have := hB0.size; simp; omega) _⟩
      exact ((Blk.new (by simp)).alloc _)
    case round =>
      obtain ⟨hs, hK, hB⟩ := hrel
      rcases hs with ⟨rfl, rfl⟩ | ⟨rfl, rfl⟩ | ⟨rfl, rfl⟩ | ⟨rfl, rfl⟩
      · have hc := hK.cell 0 _ rfl
        go_wp2_with fail
        refine (step_any 3 6 _ (hT.below hB)).mono ?_
        rintro r w1 ⟨rfl, b1⟩
        rw [show stN 3 6 = 6 by decide +kernel, show stE 3 6 = 0 by decide +kernel]
        have hB1 := hB.trans (b1.mono hB.size)
        have hK1 := hK.below b1
        clear hc b1
        have hc := hK1.cell 0 _ rfl
        go_wp2_with fail
        refine (step_any 6 6 _ (hT.below hB1)).mono ?_
        rintro r w2 ⟨rfl, b2⟩
        rw [show stE 6 6 = 170 by decide +kernel]
        have hB2 := hB1.trans (b2.mono hB1.size)
        have hK2 := hK1.below b2
        clear hc b2
        go_wp2_with fail
        go_roundw
        case rel => exact ⟨.inr (.inl ⟨rfl, rfl⟩), hK2, hB2⟩
        case measure => simp [intOf]
      · have hc := hK.cell 1 _ rfl
        go_wp2_with fail
        refine (step_any 6 5 _ (hT.below hB)).mono ?_
        rintro r w1 ⟨rfl, b1⟩
        rw [show stN 6 5 = 8 by decide +kernel, show stE 6 5 = 0 by decide +kernel]
        have hB1 := hB.trans (b1.mono hB.size)
        have hK1 := hK.below b1
        clear hc b1
        have hc := hK1.cell 1 _ rfl
        go_wp2_with fail
        refine (step_any 8 5 _ (hT.below hB1)).mono ?_
        rintro r w2 ⟨rfl, b2⟩
        rw [show stE 8 5 = 170 by decide +kernel]
        have hB2 := hB1.trans (b2.mono hB1.size)
        have hK2 := hK1.below b2
        clear hc b2
        go_wp2_with fail
        go_roundw
        case rel => exact ⟨.inr (.inr (.inl ⟨rfl, rfl⟩)), hK2, hB2⟩
        case measure => simp [intOf]
      · have hc := hK.cell 2 _ rfl
        go_wp2_with fail
        refine (step_any 8 7 _ (hT.below hB)).mono ?_
        rintro r w1 ⟨rfl, b1⟩
        rw [show stN 8 7 = 0 by decide +kernel, show stE 8 7 = 0 by decide +kernel]
        have hB1 := hB.trans (b1.mono hB.size)
        have hK1 := hK.below b1
        clear hc b1
        have hc := hK1.cell 2 _ rfl
        go_wp2_with fail
        refine (step_any 0 7 _ (hT.below hB1)).mono ?_
        rintro r w2 ⟨rfl, b2⟩
        rw [show stE 0 7 = 170 by decide +kernel]
        have hB2 := hB1.trans (b2.mono hB1.size)
        have hK2 := hK1.below b2
        clear hc b2
        go_wp2_with fail
        go_roundw
        case rel => exact ⟨.inr (.inr (.inr (⟨rfl, rfl⟩))), hK2, hB2⟩
        case measure => simp [intOf]
      · go_wp2_with fail
        go_ret
        exact ⟨rfl, hB⟩
end Go.Proofs.YtnchhniadacjfaaDoor

