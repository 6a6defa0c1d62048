/- segment.read, at encodings of valid segments. -/
import Derived.Test.YtncjeleabpodaaaSgGet
import Derived.Test.YtncjeleabpodaaaRgOwn
import Derived.Deep.RegionHeld3
import Derived.Outline
namespace Go.Proofs.Ytncjeleabpodaaa
open Go.RowKit
/-- Block R has 13 cells that may be written. -/
def Row13 (R : Nat) (W : World) : Prop := ∀ i, i < 13 → ∃ v, At R i v W
theorem Row13.chg {R C : Nat} {W W' : World} (h : Row13 R W) (hc : Chg C W W') (hne : R ≠ C) : Row13 R W' := fun i hi => by
  obtain ⟨v, hv⟩ := h i hi
  exact ⟨v, sgat_chg hv hc hne⟩
theorem read_start {w W0 : World} {t : ByteArray} {T1 T2 T3 : TypeId} (h : ((w.alloc (.cells #[.string t] T1)).alloc (.cells #[.int .i64 0, .int .i64 0, .int .i64 0, .int .i64 0, .bool false, .bool false, .bool false, .bool false, .int .i64 0, .int .i64 0, .bool false, .slice none 0 0, .string ⟨#[]⟩] T2)).alloc (.cells #[.int .i64 0] T3) = W0) :
    w.heap.size + 1 + 1 < W0.heap.size ∧ Hid (W0.cell? ⟨w.heap.size, 0, none⟩ = some (.string t)) ∧ Hid (At (w.heap.size + 1 + 1) 0 (.int .i64 0) W0) ∧ Hid (Row13 (w.heap.size + 1) W0) ∧ Hid (Below w.heap.size w W0) := by
  subst h
  have h1 : At w.heap.size 0 (.string t) (w.alloc (.cells #[.string t] T1)) := At.new _ rfl rfl
  have h2 : ∀ i, i < 13 → ∃ v, At (w.heap.size + 1) i v ((w.alloc (.cells #[.string t] T1)).alloc (.cells #[.int .i64 0, .int .i64 0, .int .i64 0, .int .i64 0, .bool false, .bool false, .bool false, .bool false, .int .i64 0, .int .i64 0, .bool false, .slice none 0 0, .string ⟨#[]⟩] T2)) := by
    intro i hi
    exact ⟨_, At.new (vs := #[.int .i64 0, .int .i64 0, .int .i64 0, .int .i64 0, .bool false, .bool false, .bool false, .bool false, .int .i64 0, .int .i64 0, .bool false, .slice none 0 0, .string ⟨#[]⟩]) _ (by simp) (Array.getElem?_eq_getElem (by exact hi))⟩
  refine ⟨by simp, Lib.hid ((h1.alloc _).alloc _).1, Lib.hid (At.new _ (by simp) rfl), Lib.hid (fun i hi => ?_), Lib.hid ((((Below.refl _ w).alloc (Nat.le_refl _) _).alloc (by simp) _).alloc (by simp; omega) _)⟩
  obtain ⟨v, hv⟩ := h2 i hi
  exact ⟨v, hv.alloc _⟩
/-- Block S holds a segment's 13 cells. -/
structure SgC (S : Nat) (v0 v1 v2 v3 v4 v5 v6 v7 v8 v9 v10 v11 v12 : Value) (W : World) : Prop where
  c0 : At S 0 v0 W
  c1 : At S 1 v1 W
  c2 : At S 2 v2 W
  c3 : At S 3 v3 W
  c4 : At S 4 v4 W
  c5 : At S 5 v5 W
  c6 : At S 6 v6 W
  c7 : At S 7 v7 W
  c8 : At S 8 v8 W
  c9 : At S 9 v9 W
  c10 : At S 10 v10 W
  c11 : At S 11 v11 W
  c12 : At S 12 v12 W
theorem SgC.new (v0 v1 v2 v3 v4 v5 v6 v7 v8 v9 v10 v11 v12 : Value) (w : World) (T : TypeId) : SgC w.heap.size v0 v1 v2 v3 v4 v5 v6 v7 v8 v9 v10 v11 v12 (w.alloc (.cells #[v0, v1, v2, v3, v4, v5, v6, v7, v8, v9, v10, v11, v12] T)) :=
  ⟨At.new _ rfl rfl, At.new _ rfl rfl, At.new _ rfl rfl, At.new _ rfl rfl, At.new _ rfl rfl, At.new _ rfl rfl, At.new _ rfl rfl, At.new _ rfl rfl, At.new _ rfl rfl, At.new _ rfl rfl, At.new _ rfl rfl, At.new _ rfl rfl, At.new _ rfl rfl⟩
theorem SgC.chg {S C : Nat} {v0 v1 v2 v3 v4 v5 v6 v7 v8 v9 v10 v11 v12 : Value} {w w' : World} (h : SgC S v0 v1 v2 v3 v4 v5 v6 v7 v8 v9 v10 v11 v12 w) (hc : Chg C w w') (hne : S ≠ C) : SgC S v0 v1 v2 v3 v4 v5 v6 v7 v8 v9 v10 v11 v12 w' :=
  ⟨sgat_chg h.c0 hc hne, sgat_chg h.c1 hc hne, sgat_chg h.c2 hc hne, sgat_chg h.c3 hc hne, sgat_chg h.c4 hc hne, sgat_chg h.c5 hc hne, sgat_chg h.c6 hc hne, sgat_chg h.c7 hc hne, sgat_chg h.c8 hc hne, sgat_chg h.c9 hc hne, sgat_chg h.c10 hc hne, sgat_chg h.c11 hc hne, sgat_chg h.c12 hc hne⟩
theorem SgC.set4 {S : Nat} {v0 v1 v2 v3 v4 v5 v6 v7 v8 v9 v10 v11 v12 : Value} {w : World} (h : SgC S v0 v1 v2 v3 v4 v5 v6 v7 v8 v9 v10 v11 v12 w) (u : Value) : SgC S v0 v1 v2 v3 u v5 v6 v7 v8 v9 v10 v11 v12 (w.setCell ⟨S, 4, none⟩ u) :=
  ⟨h.c0.other _ _ (by intro e; cases e), h.c1.other _ _ (by intro e; cases e), h.c2.other _ _ (by intro e; cases e), h.c3.other _ _ (by intro e; cases e), h.c4.set _, h.c5.other _ _ (by intro e; cases e), h.c6.other _ _ (by intro e; cases e), h.c7.other _ _ (by intro e; cases e), h.c8.other _ _ (by intro e; cases e), h.c9.other _ _ (by intro e; cases e), h.c10.other _ _ (by intro e; cases e), h.c11.other _ _ (by intro e; cases e), h.c12.other _ _ (by intro e; cases e)⟩
theorem SgC.set5 {S : Nat} {v0 v1 v2 v3 v4 v5 v6 v7 v8 v9 v10 v11 v12 : Value} {w : World} (h : SgC S v0 v1 v2 v3 v4 v5 v6 v7 v8 v9 v10 v11 v12 w) (u : Value) : SgC S v0 v1 v2 v3 v4 u v6 v7 v8 v9 v10 v11 v12 (w.setCell ⟨S, 5, none⟩ u) :=
  ⟨h.c0.other _ _ (by intro e; cases e), h.c1.other _ _ (by intro e; cases e), h.c2.other _ _ (by intro e; cases e), h.c3.other _ _ (by intro e; cases e), h.c4.other _ _ (by intro e; cases e), h.c5.set _, h.c6.other _ _ (by intro e; cases e), h.c7.other _ _ (by intro e; cases e), h.c8.other _ _ (by intro e; cases e), h.c9.other _ _ (by intro e; cases e), h.c10.other _ _ (by intro e; cases e), h.c11.other _ _ (by intro e; cases e), h.c12.other _ _ (by intro e; cases e)⟩
theorem SgC.set6 {S : Nat} {v0 v1 v2 v3 v4 v5 v6 v7 v8 v9 v10 v11 v12 : Value} {w : World} (h : SgC S v0 v1 v2 v3 v4 v5 v6 v7 v8 v9 v10 v11 v12 w) (u : Value) : SgC S v0 v1 v2 v3 v4 v5 u v7 v8 v9 v10 v11 v12 (w.setCell ⟨S, 6, none⟩ u) :=
  ⟨h.c0.other _ _ (by intro e; cases e), h.c1.other _ _ (by intro e; cases e), h.c2.other _ _ (by intro e; cases e), h.c3.other _ _ (by intro e; cases e), h.c4.other _ _ (by intro e; cases e), h.c5.other _ _ (by intro e; cases e), h.c6.set _, h.c7.other _ _ (by intro e; cases e), h.c8.other _ _ (by intro e; cases e), h.c9.other _ _ (by intro e; cases e), h.c10.other _ _ (by intro e; cases e), h.c11.other _ _ (by intro e; cases e), h.c12.other _ _ (by intro e; cases e)⟩
theorem SgC.set7 {S : Nat} {v0 v1 v2 v3 v4 v5 v6 v7 v8 v9 v10 v11 v12 : Value} {w : World} (h : SgC S v0 v1 v2 v3 v4 v5 v6 v7 v8 v9 v10 v11 v12 w) (u : Value) : SgC S v0 v1 v2 v3 v4 v5 v6 u v8 v9 v10 v11 v12 (w.setCell ⟨S, 7, none⟩ u) :=
  ⟨h.c0.other _ _ (by intro e; cases e), h.c1.other _ _ (by intro e; cases e), h.c2.other _ _ (by intro e; cases e), h.c3.other _ _ (by intro e; cases e), h.c4.other _ _ (by intro e; cases e), h.c5.other _ _ (by intro e; cases e), h.c6.other _ _ (by intro e; cases e), h.c7.set _, h.c8.other _ _ (by intro e; cases e), h.c9.other _ _ (by intro e; cases e), h.c10.other _ _ (by intro e; cases e), h.c11.other _ _ (by intro e; cases e), h.c12.other _ _ (by intro e; cases e)⟩
theorem SgC.set8 {S : Nat} {v0 v1 v2 v3 v4 v5 v6 v7 v8 v9 v10 v11 v12 : Value} {w : World} (h : SgC S v0 v1 v2 v3 v4 v5 v6 v7 v8 v9 v10 v11 v12 w) (u : Value) : SgC S v0 v1 v2 v3 v4 v5 v6 v7 u v9 v10 v11 v12 (w.setCell ⟨S, 8, none⟩ u) :=
  ⟨h.c0.other _ _ (by intro e; cases e), h.c1.other _ _ (by intro e; cases e), h.c2.other _ _ (by intro e; cases e), h.c3.other _ _ (by intro e; cases e), h.c4.other _ _ (by intro e; cases e), h.c5.other _ _ (by intro e; cases e), h.c6.other _ _ (by intro e; cases e), h.c7.other _ _ (by intro e; cases e), h.c8.set _, h.c9.other _ _ (by intro e; cases e), h.c10.other _ _ (by intro e; cases e), h.c11.other _ _ (by intro e; cases e), h.c12.other _ _ (by intro e; cases e)⟩
theorem SgC.set9 {S : Nat} {v0 v1 v2 v3 v4 v5 v6 v7 v8 v9 v10 v11 v12 : Value} {w : World} (h : SgC S v0 v1 v2 v3 v4 v5 v6 v7 v8 v9 v10 v11 v12 w) (u : Value) : SgC S v0 v1 v2 v3 v4 v5 v6 v7 v8 u v10 v11 v12 (w.setCell ⟨S, 9, none⟩ u) :=
  ⟨h.c0.other _ _ (by intro e; cases e), h.c1.other _ _ (by intro e; cases e), h.c2.other _ _ (by intro e; cases e), h.c3.other _ _ (by intro e; cases e), h.c4.other _ _ (by intro e; cases e), h.c5.other _ _ (by intro e; cases e), h.c6.other _ _ (by intro e; cases e), h.c7.other _ _ (by intro e; cases e), h.c8.other _ _ (by intro e; cases e), h.c9.set _, h.c10.other _ _ (by intro e; cases e), h.c11.other _ _ (by intro e; cases e), h.c12.other _ _ (by intro e; cases e)⟩
theorem SgC.set10 {S : Nat} {v0 v1 v2 v3 v4 v5 v6 v7 v8 v9 v10 v11 v12 : Value} {w : World} (h : SgC S v0 v1 v2 v3 v4 v5 v6 v7 v8 v9 v10 v11 v12 w) (u : Value) : SgC S v0 v1 v2 v3 v4 v5 v6 v7 v8 v9 u v11 v12 (w.setCell ⟨S, 10, none⟩ u) :=
  ⟨h.c0.other _ _ (by intro e; cases e), h.c1.other _ _ (by intro e; cases e), h.c2.other _ _ (by intro e; cases e), h.c3.other _ _ (by intro e; cases e), h.c4.other _ _ (by intro e; cases e), h.c5.other _ _ (by intro e; cases e), h.c6.other _ _ (by intro e; cases e), h.c7.other _ _ (by intro e; cases e), h.c8.other _ _ (by intro e; cases e), h.c9.other _ _ (by intro e; cases e), h.c10.set _, h.c11.other _ _ (by intro e; cases e), h.c12.other _ _ (by intro e; cases e)⟩
theorem SgC.set11 {S : Nat} {v0 v1 v2 v3 v4 v5 v6 v7 v8 v9 v10 v11 v12 : Value} {w : World} (h : SgC S v0 v1 v2 v3 v4 v5 v6 v7 v8 v9 v10 v11 v12 w) (u : Value) : SgC S v0 v1 v2 v3 v4 v5 v6 v7 v8 v9 v10 u v12 (w.setCell ⟨S, 11, none⟩ u) :=
  ⟨h.c0.other _ _ (by intro e; cases e), h.c1.other _ _ (by intro e; cases e), h.c2.other _ _ (by intro e; cases e), h.c3.other _ _ (by intro e; cases e), h.c4.other _ _ (by intro e; cases e), h.c5.other _ _ (by intro e; cases e), h.c6.other _ _ (by intro e; cases e), h.c7.other _ _ (by intro e; cases e), h.c8.other _ _ (by intro e; cases e), h.c9.other _ _ (by intro e; cases e), h.c10.other _ _ (by intro e; cases e), h.c11.set _, h.c12.other _ _ (by intro e; cases e)⟩
theorem SgC.set12 {S : Nat} {v0 v1 v2 v3 v4 v5 v6 v7 v8 v9 v10 v11 v12 : Value} {w : World} (h : SgC S v0 v1 v2 v3 v4 v5 v6 v7 v8 v9 v10 v11 v12 w) (u : Value) : SgC S v0 v1 v2 v3 v4 v5 v6 v7 v8 v9 v10 v11 u (w.setCell ⟨S, 12, none⟩ u) :=
  ⟨h.c0.other _ _ (by intro e; cases e), h.c1.other _ _ (by intro e; cases e), h.c2.other _ _ (by intro e; cases e), h.c3.other _ _ (by intro e; cases e), h.c4.other _ _ (by intro e; cases e), h.c5.other _ _ (by intro e; cases e), h.c6.other _ _ (by intro e; cases e), h.c7.other _ _ (by intro e; cases e), h.c8.other _ _ (by intro e; cases e), h.c9.other _ _ (by intro e; cases e), h.c10.other _ _ (by intro e; cases e), h.c11.other _ _ (by intro e; cases e), h.c12.set _⟩
theorem SgC.set0 {S : Nat} {v0 v1 v2 v3 v4 v5 v6 v7 v8 v9 v10 v11 v12 : Value} {w : World} (h : SgC S v0 v1 v2 v3 v4 v5 v6 v7 v8 v9 v10 v11 v12 w) (u : Value) : SgC S u v1 v2 v3 v4 v5 v6 v7 v8 v9 v10 v11 v12 (w.setCell ⟨S, 0, none⟩ u) :=
  ⟨h.c0.set _, h.c1.other _ _ (by intro e; cases e), h.c2.other _ _ (by intro e; cases e), h.c3.other _ _ (by intro e; cases e), h.c4.other _ _ (by intro e; cases e), h.c5.other _ _ (by intro e; cases e), h.c6.other _ _ (by intro e; cases e), h.c7.other _ _ (by intro e; cases e), h.c8.other _ _ (by intro e; cases e), h.c9.other _ _ (by intro e; cases e), h.c10.other _ _ (by intro e; cases e), h.c11.other _ _ (by intro e; cases e), h.c12.other _ _ (by intro e; cases e)⟩
theorem SgC.set1 {S : Nat} {v0 v1 v2 v3 v4 v5 v6 v7 v8 v9 v10 v11 v12 : Value} {w : World} (h : SgC S v0 v1 v2 v3 v4 v5 v6 v7 v8 v9 v10 v11 v12 w) (u : Value) : SgC S v0 u v2 v3 v4 v5 v6 v7 v8 v9 v10 v11 v12 (w.setCell ⟨S, 1, none⟩ u) :=
  ⟨h.c0.other _ _ (by intro e; cases e), h.c1.set _, h.c2.other _ _ (by intro e; cases e), h.c3.other _ _ (by intro e; cases e), h.c4.other _ _ (by intro e; cases e), h.c5.other _ _ (by intro e; cases e), h.c6.other _ _ (by intro e; cases e), h.c7.other _ _ (by intro e; cases e), h.c8.other _ _ (by intro e; cases e), h.c9.other _ _ (by intro e; cases e), h.c10.other _ _ (by intro e; cases e), h.c11.other _ _ (by intro e; cases e), h.c12.other _ _ (by intro e; cases e)⟩
theorem SgC.set2 {S : Nat} {v0 v1 v2 v3 v4 v5 v6 v7 v8 v9 v10 v11 v12 : Value} {w : World} (h : SgC S v0 v1 v2 v3 v4 v5 v6 v7 v8 v9 v10 v11 v12 w) (u : Value) : SgC S v0 v1 u v3 v4 v5 v6 v7 v8 v9 v10 v11 v12 (w.setCell ⟨S, 2, none⟩ u) :=
  ⟨h.c0.other _ _ (by intro e; cases e), h.c1.other _ _ (by intro e; cases e), h.c2.set _, h.c3.other _ _ (by intro e; cases e), h.c4.other _ _ (by intro e; cases e), h.c5.other _ _ (by intro e; cases e), h.c6.other _ _ (by intro e; cases e), h.c7.other _ _ (by intro e; cases e), h.c8.other _ _ (by intro e; cases e), h.c9.other _ _ (by intro e; cases e), h.c10.other _ _ (by intro e; cases e), h.c11.other _ _ (by intro e; cases e), h.c12.other _ _ (by intro e; cases e)⟩
theorem SgC.set3 {S : Nat} {v0 v1 v2 v3 v4 v5 v6 v7 v8 v9 v10 v11 v12 : Value} {w : World} (h : SgC S v0 v1 v2 v3 v4 v5 v6 v7 v8 v9 v10 v11 v12 w) (u : Value) : SgC S v0 v1 v2 u v4 v5 v6 v7 v8 v9 v10 v11 v12 (w.setCell ⟨S, 3, none⟩ u) :=
  ⟨h.c0.other _ _ (by intro e; cases e), h.c1.other _ _ (by intro e; cases e), h.c2.other _ _ (by intro e; cases e), h.c3.set _, h.c4.other _ _ (by intro e; cases e), h.c5.other _ _ (by intro e; cases e), h.c6.other _ _ (by intro e; cases e), h.c7.other _ _ (by intro e; cases e), h.c8.other _ _ (by intro e; cases e), h.c9.other _ _ (by intro e; cases e), h.c10.other _ _ (by intro e; cases e), h.c11.other _ _ (by intro e; cases e), h.c12.other _ _ (by intro e; cases e)⟩
theorem Row13.sgc {R : Nat} {W : World} (h : Row13 R W) : ∃ v0 v1 v2 v3 v4 v5 v6 v7 v8 v9 v10 v11 v12, SgC R v0 v1 v2 v3 v4 v5 v6 v7 v8 v9 v10 v11 v12 W := by
  obtain ⟨v0, h0⟩ := h 0 (by omega)
  obtain ⟨v1, h1⟩ := h 1 (by omega)
  obtain ⟨v2, h2⟩ := h 2 (by omega)
  obtain ⟨v3, h3⟩ := h 3 (by omega)
  obtain ⟨v4, h4⟩ := h 4 (by omega)
  obtain ⟨v5, h5⟩ := h 5 (by omega)
  obtain ⟨v6, h6⟩ := h 6 (by omega)
  obtain ⟨v7, h7⟩ := h 7 (by omega)
  obtain ⟨v8, h8⟩ := h 8 (by omega)
  obtain ⟨v9, h9⟩ := h 9 (by omega)
  obtain ⟨v10, h10⟩ := h 10 (by omega)
  obtain ⟨v11, h11⟩ := h 11 (by omega)
  obtain ⟨v12, h12⟩ := h 12 (by omega)
  exact ⟨_, _, _, _, _, _, _, _, _, _, _, _, _, h0, h1, h2, h3, h4, h5, h6, h7, h8, h9, h10, h11, h12⟩
theorem extract_tail (t : ByteArray) (a : Nat) (h : a ≤ t.size) : (t.extract a t.size).data.toList = t.data.toList.drop a := by
  have e := ext_toList t a (t.size - a)
  rw [show a + (t.size - a) = t.size by omega] at e
  rw [e, List.take_of_length_le (by rw [List.length_drop, Array.length_toList]; exact Nat.le_refl _)]
theorem flag_bits (g : Sg) : (bits BinOp.and IntKind.i64 ((g.flag : Nat) : Int) 1 != 0) = g.syn ∧ (bits BinOp.and IntKind.i64 ((g.flag : Nat) : Int) 2 != 0) = g.fin ∧ (bits BinOp.and IntKind.i64 ((g.flag : Nat) : Int) 4 != 0) = g.rst ∧ (bits BinOp.and IntKind.i64 ((g.flag : Nat) : Int) 8 != 0) = g.has ∧ (bits BinOp.and IntKind.i64 ((g.flag : Nat) : Int) 16 != 0) = g.sacks := by
  unfold Sg.flag flN
  cases g.syn <;> cases g.fin <;> cases g.rst <;> cases g.has <;> cases g.sacks <;> decide +kernel
theorem SgC.below {S N : Nat} {v0 v1 v2 v3 v4 v5 v6 v7 v8 v9 v10 v11 v12 : Value} {w w' : World} (h : SgC S v0 v1 v2 v3 v4 v5 v6 v7 v8 v9 v10 v11 v12 w) (hb : Below N w w') (hN : S < N) : SgC S v0 v1 v2 v3 v4 v5 v6 v7 v8 v9 v10 v11 v12 w' :=
  ⟨h.c0.below hb hN, h.c1.below hb hN, h.c2.below hb hN, h.c3.below hb hN, h.c4.below hb hN, h.c5.below hb hN, h.c6.below hb hN, h.c7.below hb hN, h.c8.below hb hN, h.c9.below hb hN, h.c10.below hb hN, h.c11.below hb hN, h.c12.below hb hN⟩
theorem Row13.below {R N : Nat} {W W' : World} (h : Row13 R W) (hb : Below N W W') (hN : R < N) : Row13 R W' := fun i hi => by
  obtain ⟨v, hv⟩ := h i hi
  exact ⟨v, hv.below hb hN⟩
/-- out = append(out, x) in a region that draws its order. -/
theorem sgstep_append_span {w : World} {ops : Array Oper} {o : Oper} {a : Act} {K : Act → World → Prop} {Q : Exit → Act → World → Prop} {E : Prop} (hgd : o.guard = none) (s x : Operand)
    (ho : o.op = .call { callee := .builtin .append, args := #[s, x], argTypes := #[29, 29] }) (base : Nat)
    (v : Value) (L : List Sp) (hs : a.eval s = v) (hown : OwnSp w base v L) (hL : L.length ≤ 4398046511104)
    (b : Nat) (y : Sp) (hx : a.eval x = .slice (some ⟨b, 0, none⟩) 1 1) (hc0 : w.cell? ⟨b, 0, none⟩ = some (.int .i64 y.1)) (hc1 : w.cell? ⟨b, 1, none⟩ = some (.int .i64 y.2)) (hbase : base ≤ w.heap.size)
    (h : ∀ v' w', OwnSp w' base v' (L ++ [y]) → w.grownBy w' v.ownBlock → (v'.ownBlock = v.ownBlock ∨ ∃ k, v'.ownBlock = some k ∧ w.heap.size ≤ k) → K (a.put o.dst v') w') :
    if Region.wanted o (yielded ops a.tmps) = true then Oper.wp Try.prog o a w K Q else E := by
  have hw : Region.wanted o (yielded ops a.tmps) = true := by simp [Region.wanted, hgd]
  rw [if_pos hw]
  obtain ⟨i0, hi, hz0, hz1, hz2⟩ := info_parts spanInfo
  obtain ⟨v', w', hr, h2, h3, h4⟩ := run_append_own2 (P := Try.prog) w base 29 o.type 51 i0 _ 2 16 Try.underlying29 hi hz0 hz1 hz2 rfl (by decide) v L.length (flatV L) hown ⟨b, 0, none⟩ 1 1 [.int .i64 y.1, .int .i64 y.2] rfl
    (by intro j u hj; match j, hj with
      | 0, hj => simp at hj; subst hj; exact hc0
      | 1, hj => simp at hj; subst hj; simpa [Addr.add] using hc1) (by intro u hu; simp at hu; rcases hu with rfl | rfl <;> rfl) (by unfold maxLen; omega) (by omega) hbase
  unfold Oper.wp execOp
  simp only [ho, resolve, invoke, builtin, Sem.run_bind, Sem.run_pure, Result.andThen_ok, List.map_toArray, List.map_cons, List.map_nil, hs, hx, hr]
  refine h v' w' ?_ h3 h4
  show w'.ownsRow _ _ _ _ _ _
  rw [List.length_append, flatV_append]
  exact h2
set_option maxRecDepth 100000 in
set_option maxHeartbeats 4000000 in
theorem segread_any (g : Sg) (sum : Nat) (t : ByteArray) (ok : g.Ok) (hsum : sum < 65536) (ht : t.data.toList = g.wr sum) (w : World) :
    Calls Try.prog 50 #[.string t] w fun e w' => ∃ a cap S, e = .returned (.tuple #[.agg #[.int .i64 g.fp, .int .i64 g.tp, .int .i64 g.sq, .int .i64 g.ak, .bool g.syn, .bool g.fin, .bool g.rst, .bool g.has, .int .i64 g.win, .int .i64 g.mss, .bool g.sacks, .slice a g.bl.length cap, .string S], .bool true]) ∧ S.data.toList = g.s ∧ OwnSp w' w.heap.size (.slice a g.bl.length cap) g.bl ∧ Below w.heap.size w w' := by
  have hlen : 20 ≤ t.size := by
    have e : t.data.toList.length = t.size := by rw [Array.length_toList]; rfl
    rw [ht, Sg.wr_length] at e
    omega
  have hsz : t.size ≤ 1100 := by
    have e : t.data.toList.length = t.size := by rw [Array.length_toList]; rfl
    have := g.wr_le ok sum
    rw [← ht, e] at this
    exact this
  have HF0 := Lib.hid (show ((unbe (((g.wr sum).drop 0).take 2) : Nat) : Int) = g.fp by rw [g.at0 ok sum]; have := ok.fp; omega)
  have HF1 := Lib.hid (show ((unbe (((g.wr sum).drop 2).take 2) : Nat) : Int) = g.tp by rw [g.at2 ok sum]; have := ok.tp; omega)
  have HF2 := Lib.hid (show ((unbe (((g.wr sum).drop 4).take 4) : Nat) : Int) = g.sq by rw [g.at4 ok sum]; have := ok.sq; omega)
  have HF3 := Lib.hid (show ((unbe (((g.wr sum).drop 8).take 4) : Nat) : Int) = g.ak by rw [g.at8 ok sum]; have := ok.ak; omega)
  have HF4 := Lib.hid (show ((unbe (((g.wr sum).drop 12).take 1) : Nat) : Int) = ((g.flag : Nat) : Int) by rw [g.at12 sum])
  have HF5 := Lib.hid (show ((unbe (((g.wr sum).drop 13).take 1) : Nat) : Int) = ((g.bl.length : Nat) : Int) by rw [g.at13 ok sum])
  have HF6 := Lib.hid (show ((unbe (((g.wr sum).drop 14).take 2) : Nat) : Int) = g.win by rw [g.at14 ok sum]; have := ok.win; omega)
  have HF7 := Lib.hid (show ((unbe (((g.wr sum).drop 16).take 2) : Nat) : Int) = g.mss by rw [g.at16 ok sum]; have := Sg.mss_le ok; omega)
  have HF8 := Lib.hid (show ((unbe (((g.wr sum).drop 18).take 2) : Nat) : Int) = ((sum : Nat) : Int) by rw [g.at18 sum hsum])
  rw [← ht] at HF0 HF1 HF2 HF3 HF4 HF5 HF6 HF7 HF8
  have HOK := Lib.hid ok
  obtain ⟨hf0, hf1, hf2, hf3, hf4⟩ := flag_bits g
  have HB0 := Lib.hid hf0
  have HB1 := Lib.hid hf1
  have HB2 := Lib.hid hf2
  have HB3 := Lib.hid hf3
  have HB4 := Lib.hid hf4
  have hlen2 : 20 + 8 * g.bl.length ≤ t.size := by
    have e : t.data.toList.length = t.size := by rw [Array.length_toList]; rfl
    rw [ht, Sg.wr_length] at e
    omega
  have hnb3 := ok.blen
  have HATA := Lib.hid (fun k hk => show ((unbe (((g.wr sum).drop (20 + 8 * k)).take 4) : Nat) : Int) = g.bl[k].1 by rw [Sg.atA ok sum k hk]; have := (ok.blk _ (List.getElem_mem hk)).1; omega)
  have HATB := Lib.hid (fun k hk => show ((unbe (((g.wr sum).drop (24 + 8 * k)).take 4) : Nat) : Int) = g.bl[k].2 by rw [Sg.atB ok sum k hk]; have := (ok.blk _ (List.getElem_mem hk)).2.1; omega)
  have HATS := Lib.hid (g.atS sum)
  rw [← ht] at HATA HATB HATS
  clear hf0 hf1 hf2 hf3 hf4
  have HT := Lib.hid ht
  have HFL := Lib.hid g.flag_lt
  generalize hfl : g.flag = fl at HF4 HFL HB0 HB1 HB2 HB3 HB4
  obtain ⟨nb, hnb⟩ : ∃ nb, g.bl.length = nb := ⟨_, rfl⟩
  rw [hnb] at HF5 hlen2 hnb3 HATS
  have HNB := Lib.hid hnb
  clear hfl hnb
  obtain ⟨fp, tp, sq, ak, syn, fin, rst, has, win, mss, sacks, bl, s⟩ := g
  clear ok ht
  dsimp only at HF0 HF1 HF2 HF3 HF6 HF7 HB0 HB1 HB2 HB3 HB4 HNB HATA HATB HATS ⊢
  go_enter Try.func50, Try.ntmps50
  go_wp2_with fail
  generalize hW0 : ((w.alloc (.cells #[.string t] 9)).alloc (.cells #[.int .i64 0, .int .i64 0, .int .i64 0, .int .i64 0, .bool false, .bool false, .bool false, .bool false, .int .i64 0, .int .i64 0, .bool false, .slice none 0 0, .string ⟨#[]⟩] 31)).alloc (.cells #[.int .i64 0] 3) = W0
  obtain ⟨hAl, HK, HA, HR, HW⟩ := read_start hW0
  clear hW0
  obtain ⟨T, hTd⟩ : ∃ T, T = w.heap.size := ⟨_, rfl⟩
  rw [← hTd] at hAl HK HA HR ⊢
  obtain ⟨R, hRd⟩ : ∃ R, R = T + 1 := ⟨_, rfl⟩
  rw [← hRd] at hAl HA HR ⊢
  obtain ⟨A, hAd⟩ : ∃ A, A = R + 1 := ⟨_, rfl⟩
  rw [← hAd] at hAl HA ⊢
  have hTR : T < R := by omega
  have hRA : R < A := by omega
  have hTw : w.heap.size ≤ T := by omega
  clear hTd hRd hAd
  refine (sgget_any T A t 0 2 fp W0 (by omega) (by omega) (by omega) (by omega) (HF0.out) HK.out HA.out (by omega)).mono ?_
  rintro e w1 ⟨rfl, hA, hc⟩
  replace HA := Lib.hid (show At A 0 (.int .i64 2) w1 from hA)
  replace HK := Lib.hid (sgcell_chg HK.out hc (by omega))
  replace HR := Lib.hid (HR.out.chg hc (by omega))
  replace HW := Lib.hid (HW.out.trans (hc.below (by omega) (by have := HA.out.lt; first | exact hAl | omega)))
  have hAl2 := HA.out.lt
  clear hA hc hAl
  have hAl := hAl2
  clear hAl2
  go_wp2_with fail
  refine (sgget_any T A t 2 2 tp _ (by omega) (by omega) (by omega) (by omega) (HF1.out) HK.out HA.out (by omega)).mono ?_
  rintro e w2 ⟨rfl, hA, hc⟩
  replace HA := Lib.hid (show At A 0 (.int .i64 4) w2 from hA)
  replace HK := Lib.hid (sgcell_chg HK.out hc (by omega))
  replace HR := Lib.hid (HR.out.chg hc (by omega))
  replace HW := Lib.hid (HW.out.trans (hc.below (by omega) (by have := HA.out.lt; first | exact hAl | omega)))
  have hAl2 := HA.out.lt
  clear hA hc hAl
  have hAl := hAl2
  clear hAl2
  go_wp2_with fail
  refine (sgget_any T A t 4 4 sq _ (by omega) (by omega) (by omega) (by omega) (HF2.out) HK.out HA.out (by omega)).mono ?_
  rintro e w3 ⟨rfl, hA, hc⟩
  replace HA := Lib.hid (show At A 0 (.int .i64 8) w3 from hA)
  replace HK := Lib.hid (sgcell_chg HK.out hc (by omega))
  replace HR := Lib.hid (HR.out.chg hc (by omega))
  replace HW := Lib.hid (HW.out.trans (hc.below (by omega) (by have := HA.out.lt; first | exact hAl | omega)))
  have hAl2 := HA.out.lt
  clear hA hc hAl
  have hAl := hAl2
  clear hAl2
  go_wp2_with fail
  refine (sgget_any T A t 8 4 ak _ (by omega) (by omega) (by omega) (by omega) (HF3.out) HK.out HA.out (by omega)).mono ?_
  rintro e w4 ⟨rfl, hA, hc⟩
  replace HA := Lib.hid (show At A 0 (.int .i64 12) w4 from hA)
  replace HK := Lib.hid (sgcell_chg HK.out hc (by omega))
  replace HR := Lib.hid (HR.out.chg hc (by omega))
  replace HW := Lib.hid (HW.out.trans (hc.below (by omega) (by have := HA.out.lt; first | exact hAl | omega)))
  have hAl2 := HA.out.lt
  clear hA hc hAl
  have hAl := hAl2
  clear hAl2
  go_wp2_with fail
  obtain ⟨W5, hW5⟩ : ∃ W5, W5 = w4.alloc (.cells #[.int .i64 fp, .int .i64 tp, .int .i64 sq, .int .i64 ak, .bool false, .bool false, .bool false, .bool false, .int .i64 0, .int .i64 0, .bool false, .slice none 0 0, .string ⟨#[]⟩] 31) := ⟨_, rfl⟩
  rw [← hW5]
  obtain ⟨S, hSd⟩ : ∃ S, S = w4.heap.size := ⟨_, rfl⟩
  rw [← hSd]
  have HS := Lib.hid (show SgC S (.int .i64 fp) (.int .i64 tp) (.int .i64 sq) (.int .i64 ak) (.bool false) (.bool false) (.bool false) (.bool false) (.int .i64 0) (.int .i64 0) (.bool false) (.slice none 0 0) (.string ⟨#[]⟩) W5 by rw [hW5, hSd]; exact SgC.new _ _ _ _ _ _ _ _ _ _ _ _ _ _ _)
  replace HA := Lib.hid (show At A 0 (.int .i64 12) W5 by rw [hW5]; exact HA.out.alloc _)
  replace HK := Lib.hid (show W5.cell? ⟨T, 0, none⟩ = some (.string t) by rw [hW5]; exact sgcell_chg HK.out (Chg.of_below (B := A) (sgBelow _ _)) (by omega))
  replace HR := Lib.hid (show Row13 R W5 by rw [hW5]; exact HR.out.chg (Chg.of_below (B := A) (sgBelow _ _)) (by omega))
  replace HW := Lib.hid (show Below w.heap.size w W5 by rw [hW5]; exact HW.out.alloc HW.out.size _)
  have hSA : A < S := by omega
  have hAl2 := HA.out.lt
  clear hAl hSd hW5
  have hAl := hAl2
  clear hAl2
  refine (sgget_any T A t 12 1 (fl : Int) _ (by omega) (by omega) (by omega) (by omega) (HF4.out) HK.out HA.out (by omega)).mono ?_
  rintro e w5 ⟨rfl, hA, hc⟩
  replace HA := Lib.hid (show At A 0 (.int .i64 13) w5 from hA)
  replace HK := Lib.hid (sgcell_chg HK.out hc (by omega))
  replace HR := Lib.hid (HR.out.chg hc (by omega))
  replace HS := Lib.hid (HS.out.chg hc (by omega))
  replace HW := Lib.hid (HW.out.trans (hc.below (by omega) (by have := HA.out.lt; first | exact hAl | omega)))
  have hAl2 := HA.out.lt
  clear hA hc hAl
  have hAl := hAl2
  clear hAl2
  go_wp2_with fail
  refine (sgget_any T A t 13 1 (nb : Int) _ (by omega) (by omega) (by omega) (by omega) (HF5.out) HK.out HA.out (by omega)).mono ?_
  rintro e w6 ⟨rfl, hA, hc⟩
  replace HA := Lib.hid (show At A 0 (.int .i64 14) w6 from hA)
  replace HK := Lib.hid (sgcell_chg HK.out hc (by omega))
  replace HR := Lib.hid (HR.out.chg hc (by omega))
  replace HS := Lib.hid (HS.out.chg hc (by omega))
  replace HW := Lib.hid (HW.out.trans (hc.below (by omega) (by have := HA.out.lt; first | exact hAl | omega)))
  have hAl2 := HA.out.lt
  clear hA hc hAl
  have hAl := hAl2
  clear hAl2
  obtain ⟨c4, f4⟩ := HS.out.c4
  obtain ⟨c5, f5⟩ := HS.out.c5
  obtain ⟨c6, f6⟩ := HS.out.c6
  obtain ⟨c7, f7⟩ := HS.out.c7
  obtain ⟨c10, f10⟩ := HS.out.c10
  go_wp2_with fail
  rw [HB0.out, HB1.out, HB2.out, HB3.out, HB4.out]
  obtain ⟨W7, hWx⟩ : ∃ W7, W7 = (((((w6.setCell ⟨S, 4, none⟩ (.bool syn)).setCell ⟨S, 5, none⟩ (.bool fin)).setCell ⟨S, 6, none⟩ (.bool rst)).setCell ⟨S, 7, none⟩ (.bool has)).setCell ⟨S, 10, none⟩ (.bool sacks)) := ⟨_, rfl⟩
  rw [← hWx]
  have hch : Chg S w6 W7 := by rw [hWx]; exact (((((Chg.refl S w6).setCell 4 _).setCell 5 _).setCell 6 _).setCell 7 _).setCell 10 _
  replace HA := Lib.hid (sgat_chg HA.out hch (by omega))
  replace HK := Lib.hid (sgcell_chg HK.out hch (by omega))
  replace HR := Lib.hid (HR.out.chg hch (by omega))
  replace HW := Lib.hid (HW.out.trans (hch.below (by omega) HS.out.c0.lt))
  replace HS := Lib.hid (show SgC S (.int .i64 fp) (.int .i64 tp) (.int .i64 sq) (.int .i64 ak) (.bool syn) (.bool fin) (.bool rst) (.bool has) (.int .i64 0) (.int .i64 0) (.bool sacks) (.slice none 0 0) (.string ⟨#[]⟩) W7 by rw [hWx]; exact (((((HS.out.set4 _).set5 _).set6 _).set7 _).set10 _))
  have hAl2 := HA.out.lt
  clear hAl hWx hch
  have hAl := hAl2
  clear hAl2
  clear c4 f4 c5 f5 c6 f6 c7 f7 c10 f10
  refine (sgget_any T A t 14 2 win _ (by omega) (by omega) (by omega) (by omega) (HF6.out) HK.out HA.out (by omega)).mono ?_
  rintro e w7 ⟨rfl, hA, hc⟩
  replace HA := Lib.hid (show At A 0 (.int .i64 16) w7 from hA)
  replace HK := Lib.hid (sgcell_chg HK.out hc (by omega))
  replace HR := Lib.hid (HR.out.chg hc (by omega))
  replace HS := Lib.hid (HS.out.chg hc (by omega))
  replace HW := Lib.hid (HW.out.trans (hc.below (by omega) (by have := HA.out.lt; first | exact hAl | omega)))
  have hAl2 := HA.out.lt
  clear hA hc hAl
  have hAl := hAl2
  clear hAl2
  go_wp2_with fail
  refine (sgget_any T A t 16 2 mss _ (by omega) (by omega) (by omega) (by omega) (HF7.out) HK.out HA.out (by omega)).mono ?_
  rintro e w8 ⟨rfl, hA, hc⟩
  replace HA := Lib.hid (show At A 0 (.int .i64 18) w8 from hA)
  replace HK := Lib.hid (sgcell_chg HK.out hc (by omega))
  replace HR := Lib.hid (HR.out.chg hc (by omega))
  replace HS := Lib.hid (HS.out.chg hc (by omega))
  replace HW := Lib.hid (HW.out.trans (hc.below (by omega) (by have := HA.out.lt; first | exact hAl | omega)))
  have hAl2 := HA.out.lt
  clear hA hc hAl
  have hAl := hAl2
  clear hAl2
  obtain ⟨c8, f8⟩ := HS.out.c8
  obtain ⟨c9, f9⟩ := HS.out.c9
  go_wp2_with fail
  obtain ⟨W9, hWx⟩ : ∃ W9, W9 = ((w8.setCell ⟨S, 8, none⟩ (.int .i64 win)).setCell ⟨S, 9, none⟩ (.int .i64 mss)) := ⟨_, rfl⟩
  rw [← hWx]
  have hch : Chg S w8 W9 := by rw [hWx]; exact ((Chg.refl S w8).setCell 8 _).setCell 9 _
  replace HA := Lib.hid (sgat_chg HA.out hch (by omega))
  replace HK := Lib.hid (sgcell_chg HK.out hch (by omega))
  replace HR := Lib.hid (HR.out.chg hch (by omega))
  replace HW := Lib.hid (HW.out.trans (hch.below (by omega) HS.out.c0.lt))
  replace HS := Lib.hid (show SgC S (.int .i64 fp) (.int .i64 tp) (.int .i64 sq) (.int .i64 ak) (.bool syn) (.bool fin) (.bool rst) (.bool has) (.int .i64 win) (.int .i64 mss) (.bool sacks) (.slice none 0 0) (.string ⟨#[]⟩) W9 by rw [hWx]; exact ((HS.out.set8 _).set9 _))
  have hAl2 := HA.out.lt
  clear hAl hWx hch
  have hAl := hAl2
  clear hAl2
  clear c8 f8 c9 f9
  refine (sgget_any T A t 18 2 (sum : Int) _ (by omega) (by omega) (by omega) (by omega) (HF8.out) HK.out HA.out (by omega)).mono ?_
  rintro e w9 ⟨rfl, hA, hc⟩
  replace HA := Lib.hid (show At A 0 (.int .i64 20) w9 from hA)
  replace HK := Lib.hid (sgcell_chg HK.out hc (by omega))
  replace HR := Lib.hid (HR.out.chg hc (by omega))
  replace HS := Lib.hid (HS.out.chg hc (by omega))
  replace HW := Lib.hid (HW.out.trans (hc.below (by omega) (by have := HA.out.lt; first | exact hAl | omega)))
  have hAl2 := HA.out.lt
  clear hA hc hAl
  have hAl := hAl2
  clear hAl2
  have a0 := HA.out.1
  have k0 := HK.out
  go_wp2_with fail
  clear a0 k0
  obtain ⟨W10, hW10⟩ : ∃ W10, W10 = w9 := ⟨_, rfl⟩
  subst hW10
  obtain ⟨M, hM⟩ : ∃ M, M = W10.heap.size := ⟨_, rfl⟩
  have hMw : w.heap.size ≤ M := by rw [hM]; exact HW.out.size
  have hMS : S < M := by rw [hM]; exact HS.out.c0.lt
  go_loopw [68] (fun p wr => ∃ (k : Nat) (v : Value), k ≤ nb ∧ p = .int .i64 (k : Int) ∧ SgC S (.int .i64 fp) (.int .i64 tp) (.int .i64 sq) (.int .i64 ak) (.bool syn) (.bool fin) (.bool rst) (.bool has) (.int .i64 win) (.int .i64 mss) (.bool sacks) (v) (.string ⟨#[]⟩) wr ∧ OwnSp wr M v (bl.take k) ∧ At A 0 (.int .i64 ((20 + 8 * k : Nat) : Int)) wr ∧ wr.cell? ⟨T, 0, none⟩ = some (.string t) ∧ Row13 R wr ∧ Below w.heap.size w wr ∧ M ≤ wr.heap.size) (fun p _ => nb - (intOf p).toNat)
  case atStart => exact ⟨0, _, Nat.zero_le _, rfl, HS.out, OwnSp.nil _ _, HA.out, HK.out, HR.out, HW.out, by rw [hM]; exact Nat.le_refl _⟩
  case round =>
    clear HS HA HK HR HW hAl hM
    obtain ⟨k, v, hk, rfl, hS, hO, hA, hK, hR, hWb, hMs⟩ := hrel
    have HS := Lib.hid hS
    have HA := Lib.hid hA
    have HK := Lib.hid hK
    have HR := Lib.hid hR
    have HW := Lib.hid hWb
    have HO := Lib.hid hO
    have hAl := hA.lt
    have hws := hWb.size
    clear hS hA hK hR hWb hO
    by_cases hlt : k < nb
    · have hkb : k < bl.length := by rw [HNB.out]; exact hlt
      have HX1 := Lib.hid (HATA.out k hkb)
      have HX2 := Lib.hid (HATB.out k hkb)
      have HTK := Lib.hid (show bl.take (k + 1) = bl.take k ++ [bl[k]] from List.take_succ_eq_append_getElem hkb)
      have hLn : (bl.take k).length ≤ 3 := by rw [List.length_take]; omega
      generalize bl[k] = x at HX1 HX2 HTK
      obtain ⟨x1, x2⟩ := x
      dsimp only at HX1 HX2
      have hki : (k : Int) < (nb : Int) := by omega
      have hat : 20 + 8 * k + 8 ≤ t.size := by omega
      obtain ⟨c11, f11⟩ := HS.out.c11
      go_wp2_with fail
      refine wp_region_held_drew (S := (fun _ : World => True)) (by kernel_rfl) (trivial) (fun hHeld => ?_)
      clear c11 f11
      refine wpAnyH_take (i := 0) (v := ?_) (by simp only [List.getElem?_toArray, List.getElem?_cons_zero]; rfl) (by kernel_rfl) (by kernel_rfl) (by kernel_rfl) (by exact fun _ _ _ h => h) (Or.inl ⟨by rfl, ?_⟩) (by assumption) ?_
      rotate_left 1
      · intro w hSw; (try dsimp only at hSw); go_simp; (try with_reducible rfl)
      (try simp only [Act.put, List.setIfInBounds_toArray, List.set_cons_zero, List.set_cons_succ])
      refine wpAnyH_take (i := 2) (v := ?_) (by simp only [List.getElem?_toArray, List.getElem?_cons_succ, List.getElem?_cons_zero]; rfl) (by kernel_rfl) (by kernel_rfl) (by kernel_rfl) (by exact fun _ _ _ h => h) (Or.inl ⟨by rfl, ?_⟩) (by assumption) ?_
      rotate_left 1
      · intro w hSw; (try dsimp only at hSw); go_simp; (try with_reducible rfl)
      (try simp only [Act.put, List.setIfInBounds_toArray, List.set_cons_zero, List.set_cons_succ])
      refine wpAnyH_take (i := 4) (v := ?_) (by simp only [List.getElem?_toArray, List.getElem?_cons_succ, List.getElem?_cons_zero]; rfl) (by kernel_rfl) (by kernel_rfl) (by kernel_rfl) (by exact fun _ _ _ h => h) (Or.inl ⟨by rfl, ?_⟩) (by assumption) ?_
      rotate_left 1
      · intro w hSw; (try dsimp only at hSw); go_simp; (try with_reducible rfl)
      (try simp only [Act.put, List.setIfInBounds_toArray, List.set_cons_zero, List.set_cons_succ])
      replace HS := Lib.hid (show SgC S (.int .i64 fp) (.int .i64 tp) (.int .i64 sq) (.int .i64 ak) (.bool syn) (.bool fin) (.bool rst) (.bool has) (.int .i64 win) (.int .i64 mss) (.bool sacks) (v) (.string ⟨#[]⟩) wr.drew from HS.out.chg (Chg.refl A _).drew (by omega))
      replace HA := Lib.hid (show At A 0 (.int .i64 ((20 + 8 * k : Nat) : Int)) wr.drew from HA.out)
      replace HK := Lib.hid (show wr.drew.cell? ⟨T, 0, none⟩ = some (.string t) from HK.out)
      replace HR := Lib.hid (show Row13 R wr.drew from HR.out)
      replace HW := Lib.hid (HW.out.drew)
      replace HO := Lib.hid (show OwnSp wr.drew M v (bl.take k) from HO.out)
      refine wpAnyH_ready (rs := [1, 3]) (by kernel_rfl) (by simp) ?_
      refine AllReadyH.cons (by simp only [List.getElem?_toArray, List.getElem?_cons_succ, List.getElem?_cons_zero]; rfl) (fun Kq hKq => ?_) (AllReadyH.cons (by simp only [List.getElem?_toArray, List.getElem?_cons_succ, List.getElem?_cons_zero]; rfl) (fun Kq hKq => ?_) AllReadyH.nil)
      · obtain ⟨c11, f11⟩ := HS.out.c11
        go_simp
        refine hKq.out _ _ trivial (fun hHeld2 => ?_)
        clear hKq Kq hHeld
        (try simp only [Act.put, List.setIfInBounds_toArray, List.set_cons_zero, List.set_cons_succ])
        have hHeld := hHeld2
        clear hHeld2
        clear c11 f11
        refine wpAnyH_ready (rs := [3]) (by kernel_rfl) (by simp) ?_
        refine AllReadyH.cons (by simp only [List.getElem?_toArray, List.getElem?_cons_succ, List.getElem?_cons_zero]; rfl) (fun Kq hKq => ?_) AllReadyH.nil
        go_simp
        refine (sgget_any T A t (20 + 8 * k) 4 x1 _ (by omega) (by omega) (by omega) (by omega) HX1.out HK.out HA.out (by omega)).mono ?_
        rintro e r3 ⟨rfl, hA, hc⟩
        replace HA := Lib.hid (show At A 0 (.int .i64 ((24 + 8 * k : Nat) : Int)) r3 by rw [show ((24 + 8 * k : Nat) : Int) = ((20 + 8 * k : Nat) : Int) + ((4 : Nat) : Int) by omega]; exact hA)
        replace HK := Lib.hid (sgcell_chg HK.out hc (by omega))
        replace HR := Lib.hid (HR.out.chg hc (by omega))
        replace HS := Lib.hid (HS.out.chg hc (by omega))
        replace HO := Lib.hid (HO.out.kept (row := some A) ⟨hc.os, hc.tape, hc.output, hc.size, fun j hj hne => hc.block j hj (fun e => hne (by rw [e]))⟩ (.inr (fun e => by have := (HO.out.lt _ e).1; omega)))
        replace HW := Lib.hid (HW.out.trans (hc.below (by omega) hAl))
        replace hMs := Nat.le_trans hMs hc.size
        have hAl2 := HA.out.lt
        clear hA hc hAl
        have hAl := hAl2
        clear hAl2
        go_simp
        refine hKq.out _ _ trivial (fun hHeld2 => ?_)
        clear hKq Kq hHeld
        (try simp only [Act.put, List.setIfInBounds_toArray, List.set_cons_zero, List.set_cons_succ])
        have hHeld := hHeld2
        clear hHeld2
        refine wpAnyH_ready (rs := [5]) (by kernel_rfl) (by simp) ?_
        refine AllReadyH.cons (by simp only [List.getElem?_toArray, List.getElem?_cons_succ, List.getElem?_cons_zero]; rfl) (fun Kq hKq => ?_) AllReadyH.nil
        go_simp
        refine (sgget_any T A t (24 + 8 * k) 4 x2 _ (by omega) (by omega) (by omega) (by omega) HX2.out HK.out HA.out (by omega)).mono ?_
        rintro e r5 ⟨rfl, hA, hc⟩
        replace HA := Lib.hid (show At A 0 (.int .i64 ((20 + 8 * (k + 1) : Nat) : Int)) r5 by rw [show ((20 + 8 * (k + 1) : Nat) : Int) = ((24 + 8 * k : Nat) : Int) + ((4 : Nat) : Int) by omega]; exact hA)
        replace HK := Lib.hid (sgcell_chg HK.out hc (by omega))
        replace HR := Lib.hid (HR.out.chg hc (by omega))
        replace HS := Lib.hid (HS.out.chg hc (by omega))
        replace HO := Lib.hid (HO.out.kept (row := some A) ⟨hc.os, hc.tape, hc.output, hc.size, fun j hj hne => hc.block j hj (fun e => hne (by rw [e]))⟩ (.inr (fun e => by have := (HO.out.lt _ e).1; omega)))
        replace HW := Lib.hid (HW.out.trans (hc.below (by omega) hAl))
        replace hMs := Nat.le_trans hMs hc.size
        have hAl2 := HA.out.lt
        clear hA hc hAl
        have hAl := hAl2
        clear hAl2
        go_simp
        refine hKq.out _ _ trivial (fun hHeld2 => ?_)
        clear hKq Kq hHeld
        (try simp only [Act.put, List.setIfInBounds_toArray, List.set_cons_zero, List.set_cons_succ])
        have hHeld := hHeld2
        clear hHeld2
        refine wpAnyH_take (i := 6) (v := ?_) (by simp only [List.getElem?_toArray, List.getElem?_cons_succ, List.getElem?_cons_zero]; rfl) (by kernel_rfl) (by kernel_rfl) (by kernel_rfl) (by exact fun _ _ _ h => h) (Or.inl ⟨by rfl, ?_⟩) (by assumption) ?_
        rotate_left 1
        · intro w hSw; (try dsimp only at hSw); go_simp; (try with_reducible rfl)
        (try simp only [Act.put, List.setIfInBounds_toArray, List.set_cons_zero, List.set_cons_succ])
        refine wpAnyH_ready (rs := [7]) (by kernel_rfl) (by simp) ?_
        refine AllReadyH.cons (by simp only [List.getElem?_toArray, List.getElem?_cons_succ, List.getElem?_cons_zero]; rfl) (fun Kq hKq => ?_) AllReadyH.nil
        go_simp
        refine hKq.out _ _ trivial (fun hHeld2 => ?_)
        clear hKq Kq hHeld
        (try simp only [Act.put, List.setIfInBounds_toArray, List.set_cons_zero, List.set_cons_succ])
        have hHeld := hHeld2
        clear hHeld2
        have hch0 : Chg A r5 (r5.alloc (.cells #[.int .i64 x1, .int .i64 x2] 51)) := Chg.of_below (sgBelow _ _)
        have hn0 : (r5.alloc (.cells #[.int .i64 x1, .int .i64 x2] 51)).cell? ⟨r5.heap.size, 0, none⟩ = some (.int .i64 x1) := (At.new (W := r5) (vs := #[.int .i64 x1, .int .i64 x2]) _ rfl rfl).1
        have hn1 : (r5.alloc (.cells #[.int .i64 x1, .int .i64 x2] 51)).cell? ⟨r5.heap.size, 1, none⟩ = some (.int .i64 x2) := (At.new (W := r5) (vs := #[.int .i64 x1, .int .i64 x2]) _ rfl rfl).1
        have hsz0 : (r5.alloc (.cells #[.int .i64 x1, .int .i64 x2] 51)).heap.size = r5.heap.size + 1 := by simp
        replace HS := Lib.hid (HS.out.chg hch0 (by omega))
        replace HA := Lib.hid (HA.out.alloc (.cells #[.int .i64 x1, .int .i64 x2] 51))
        replace HK := Lib.hid (sgcell_chg HK.out hch0 (by omega))
        replace HR := Lib.hid (HR.out.chg hch0 (by omega))
        replace HW := Lib.hid (HW.out.alloc HW.out.size (.cells #[.int .i64 x1, .int .i64 x2] 51))
        replace HO := Lib.hid (HO.out.alloc (.cells #[.int .i64 x1, .int .i64 x2] 51))
        replace hMs := Nat.le_trans hMs hch0.size
        replace hAl := Nat.lt_of_lt_of_le hAl hch0.size
        generalize r5.alloc (.cells #[.int .i64 x1, .int .i64 x2] 51) = r6 at HS HA HK HR HW HO hMs hAl hn0 hn1 hch0 hsz0 hHeld ⊢
        refine wpAnyH_ready (rs := [8]) (by kernel_rfl) (by simp) ?_
        refine AllReadyH.cons (by simp only [List.getElem?_toArray, List.getElem?_cons_succ, List.getElem?_cons_zero]; rfl) (fun Kq hKq => ?_) AllReadyH.nil
        refine sgstep_append_span rfl _ _ rfl M v (bl.take k) (by rfl) HO.out (by omega) r5.heap.size (x1, x2) (by rfl) hn0 hn1 hMs ?_
        intro v' r7 hO7 hg7 hb7
        have hlo : ∀ b, v.ownBlock = some b → M ≤ b := fun b e => (HO.out.lt b e).1
        have hc7 : ∀ C, C ≤ M → Below C r6 r7 := fun C hC => grown_below hg7 (by omega) (fun b e => by have := hlo b e; omega)
        obtain ⟨va', vc', hv', -⟩ := hO7.val
        generalize (bl.take k ++ [(x1, x2)]).length = nl at hv'
        subst hv'
        replace HO := Lib.hid (show OwnSp r7 M (.slice va' nl vc') (bl.take (k + 1)) by rw [HTK.out]; exact hO7)
        replace HA := Lib.hid (HA.out.below (hc7 (A + 1) (by omega)) (Nat.lt_succ_self _))
        replace HS := Lib.hid (HS.out.below (hc7 (S + 1) (by omega)) (Nat.lt_succ_self _))
        replace HR := Lib.hid (HR.out.below (hc7 (R + 1) (by omega)) (Nat.lt_succ_self _))
        replace HK := Lib.hid ((hc7 (T + 1) (by omega)).cell (p := ⟨T, 0, none⟩) (Nat.lt_succ_self _) |>.trans HK.out)
        replace HW := Lib.hid (HW.out.trans (grown_below hg7 (by omega) (fun b e => by have := hlo b e; omega)))
        replace hMs := Nat.le_trans hMs hg7.size
        have hz7 := hg7.size
        clear hO7 hg7 hb7 hlo hc7 hn0 hn1 hch0
        refine hKq.out _ _ (trivial) (fun hHeld2 => ?_)
        clear hKq Kq hHeld
        (try simp only [Act.put, List.setIfInBounds_toArray, List.set_cons_zero, List.set_cons_succ])
        have hHeld := hHeld2
        clear hHeld2
        refine wpAnyH_take (i := 9) (v := ?_) (by simp only [List.getElem?_toArray, List.getElem?_cons_succ, List.getElem?_cons_zero]; rfl) (by kernel_rfl) (by kernel_rfl) (by kernel_rfl) (by exact fun _ _ _ h => h) (Or.inl ⟨by rfl, ?_⟩) (by assumption) ?_
        rotate_left 1
        · intro w hSw; (try dsimp only at hSw); go_simp; (try with_reducible rfl)
        (try simp only [Act.put, List.setIfInBounds_toArray, List.set_cons_zero, List.set_cons_succ])
        obtain ⟨c11, f11⟩ := HS.out.c11
        refine wpAnyH_ready (rs := [10]) (by kernel_rfl) (by simp) ?_
        refine AllReadyH.cons (by simp only [List.getElem?_toArray, List.getElem?_cons_succ, List.getElem?_cons_zero]; rfl) (fun Kq hKq => ?_) AllReadyH.nil
        go_simp
        refine hKq.out _ _ trivial (fun hHeld2 => ?_)
        clear hKq Kq hHeld
        (try simp only [Act.put, List.setIfInBounds_toArray, List.set_cons_zero, List.set_cons_succ])
        have hHeld := hHeld2
        clear hHeld2
        have hne7 : (Value.slice va' nl vc').ownBlock ≠ some S := fun e => by have := (HO.out.lt _ e).1; omega
        have hch7 := (Chg.refl S r7).setCell 11 (.slice va' nl vc')
        replace HO := Lib.hid (HO.out.setCell S 11 (.slice va' nl vc') hne7)
        replace HA := Lib.hid (sgat_chg HA.out hch7 (by omega))
        replace HK := Lib.hid (sgcell_chg HK.out hch7 (by omega))
        replace HR := Lib.hid (HR.out.chg hch7 (by omega))
        replace HW := Lib.hid (HW.out.trans (hch7.below (by omega) HS.out.c0.lt))
        replace hMs := Nat.le_trans hMs hch7.size
        replace HS := Lib.hid (HS.out.set11 (.slice va' nl vc'))
        clear c11 f11 hne7 hch7
        generalize r7.setCell ⟨S, 11, none⟩ (.slice va' nl vc') = r8 at HS HA HK HR HW HO hMs hHeld ⊢
        refine wpAnyH_done (by kernel_rfl) ?_ _
        clear hHeld
        go_wp2_with fail
        exact ⟨⟨k + 1, _, hlt, by simp, HS.out, HO.out, HA.out, HK.out, HR.out, HW.out, hMs⟩, by simp [intOf]; omega⟩
      · go_simp
        refine (sgget_any T A t (20 + 8 * k) 4 x1 _ (by omega) (by omega) (by omega) (by omega) HX1.out HK.out HA.out (by omega)).mono ?_
        rintro e r3 ⟨rfl, hA, hc⟩
        replace HA := Lib.hid (show At A 0 (.int .i64 ((24 + 8 * k : Nat) : Int)) r3 by rw [show ((24 + 8 * k : Nat) : Int) = ((20 + 8 * k : Nat) : Int) + ((4 : Nat) : Int) by omega]; exact hA)
        replace HK := Lib.hid (sgcell_chg HK.out hc (by omega))
        replace HR := Lib.hid (HR.out.chg hc (by omega))
        replace HS := Lib.hid (HS.out.chg hc (by omega))
        replace HO := Lib.hid (HO.out.kept (row := some A) ⟨hc.os, hc.tape, hc.output, hc.size, fun j hj hne => hc.block j hj (fun e => hne (by rw [e]))⟩ (.inr (fun e => by have := (HO.out.lt _ e).1; omega)))
        replace HW := Lib.hid (HW.out.trans (hc.below (by omega) hAl))
        replace hMs := Nat.le_trans hMs hc.size
        have hAl2 := HA.out.lt
        clear hA hc hAl
        have hAl := hAl2
        clear hAl2
        go_simp
        refine hKq.out _ _ trivial (fun hHeld2 => ?_)
        clear hKq Kq hHeld
        (try simp only [Act.put, List.setIfInBounds_toArray, List.set_cons_zero, List.set_cons_succ])
        have hHeld := hHeld2
        clear hHeld2
        refine wpAnyH_ready (rs := [1, 5]) (by kernel_rfl) (by simp) ?_
        refine AllReadyH.cons (by simp only [List.getElem?_toArray, List.getElem?_cons_succ, List.getElem?_cons_zero]; rfl) (fun Kq hKq => ?_) (AllReadyH.cons (by simp only [List.getElem?_toArray, List.getElem?_cons_succ, List.getElem?_cons_zero]; rfl) (fun Kq hKq => ?_) AllReadyH.nil)
        · obtain ⟨c11, f11⟩ := HS.out.c11
          go_simp
          refine hKq.out _ _ trivial (fun hHeld2 => ?_)
          clear hKq Kq hHeld
          (try simp only [Act.put, List.setIfInBounds_toArray, List.set_cons_zero, List.set_cons_succ])
          have hHeld := hHeld2
          clear hHeld2
          clear c11 f11
          refine wpAnyH_ready (rs := [5]) (by kernel_rfl) (by simp) ?_
          refine AllReadyH.cons (by simp only [List.getElem?_toArray, List.getElem?_cons_succ, List.getElem?_cons_zero]; rfl) (fun Kq hKq => ?_) AllReadyH.nil
          go_simp
          refine (sgget_any T A t (24 + 8 * k) 4 x2 _ (by omega) (by omega) (by omega) (by omega) HX2.out HK.out HA.out (by omega)).mono ?_
          rintro e r5 ⟨rfl, hA, hc⟩
          replace HA := Lib.hid (show At A 0 (.int .i64 ((20 + 8 * (k + 1) : Nat) : Int)) r5 by rw [show ((20 + 8 * (k + 1) : Nat) : Int) = ((24 + 8 * k : Nat) : Int) + ((4 : Nat) : Int) by omega]; exact hA)
          replace HK := Lib.hid (sgcell_chg HK.out hc (by omega))
          replace HR := Lib.hid (HR.out.chg hc (by omega))
          replace HS := Lib.hid (HS.out.chg hc (by omega))
          replace HO := Lib.hid (HO.out.kept (row := some A) ⟨hc.os, hc.tape, hc.output, hc.size, fun j hj hne => hc.block j hj (fun e => hne (by rw [e]))⟩ (.inr (fun e => by have := (HO.out.lt _ e).1; omega)))
          replace HW := Lib.hid (HW.out.trans (hc.below (by omega) hAl))
          replace hMs := Nat.le_trans hMs hc.size
          have hAl2 := HA.out.lt
          clear hA hc hAl
          have hAl := hAl2
          clear hAl2
          go_simp
          refine hKq.out _ _ trivial (fun hHeld2 => ?_)
          clear hKq Kq hHeld
          (try simp only [Act.put, List.setIfInBounds_toArray, List.set_cons_zero, List.set_cons_succ])
          have hHeld := hHeld2
          clear hHeld2
          refine wpAnyH_take (i := 6) (v := ?_) (by simp only [List.getElem?_toArray, List.getElem?_cons_succ, List.getElem?_cons_zero]; rfl) (by kernel_rfl) (by kernel_rfl) (by kernel_rfl) (by exact fun _ _ _ h => h) (Or.inl ⟨by rfl, ?_⟩) (by assumption) ?_
          rotate_left 1
          · intro w hSw; (try dsimp only at hSw); go_simp; (try with_reducible rfl)
          (try simp only [Act.put, List.setIfInBounds_toArray, List.set_cons_zero, List.set_cons_succ])
          refine wpAnyH_ready (rs := [7]) (by kernel_rfl) (by simp) ?_
          refine AllReadyH.cons (by simp only [List.getElem?_toArray, List.getElem?_cons_succ, List.getElem?_cons_zero]; rfl) (fun Kq hKq => ?_) AllReadyH.nil
          go_simp
          refine hKq.out _ _ trivial (fun hHeld2 => ?_)
          clear hKq Kq hHeld
          (try simp only [Act.put, List.setIfInBounds_toArray, List.set_cons_zero, List.set_cons_succ])
          have hHeld := hHeld2
          clear hHeld2
          have hch0 : Chg A r5 (r5.alloc (.cells #[.int .i64 x1, .int .i64 x2] 51)) := Chg.of_below (sgBelow _ _)
          have hn0 : (r5.alloc (.cells #[.int .i64 x1, .int .i64 x2] 51)).cell? ⟨r5.heap.size, 0, none⟩ = some (.int .i64 x1) := (At.new (W := r5) (vs := #[.int .i64 x1, .int .i64 x2]) _ rfl rfl).1
          have hn1 : (r5.alloc (.cells #[.int .i64 x1, .int .i64 x2] 51)).cell? ⟨r5.heap.size, 1, none⟩ = some (.int .i64 x2) := (At.new (W := r5) (vs := #[.int .i64 x1, .int .i64 x2]) _ rfl rfl).1
          have hsz0 : (r5.alloc (.cells #[.int .i64 x1, .int .i64 x2] 51)).heap.size = r5.heap.size + 1 := by simp
          replace HS := Lib.hid (HS.out.chg hch0 (by omega))
          replace HA := Lib.hid (HA.out.alloc (.cells #[.int .i64 x1, .int .i64 x2] 51))
          replace HK := Lib.hid (sgcell_chg HK.out hch0 (by omega))
          replace HR := Lib.hid (HR.out.chg hch0 (by omega))
          replace HW := Lib.hid (HW.out.alloc HW.out.size (.cells #[.int .i64 x1, .int .i64 x2] 51))
          replace HO := Lib.hid (HO.out.alloc (.cells #[.int .i64 x1, .int .i64 x2] 51))
          replace hMs := Nat.le_trans hMs hch0.size
          replace hAl := Nat.lt_of_lt_of_le hAl hch0.size
          generalize r5.alloc (.cells #[.int .i64 x1, .int .i64 x2] 51) = r6 at HS HA HK HR HW HO hMs hAl hn0 hn1 hch0 hsz0 hHeld ⊢
          refine wpAnyH_ready (rs := [8]) (by kernel_rfl) (by simp) ?_
          refine AllReadyH.cons (by simp only [List.getElem?_toArray, List.getElem?_cons_succ, List.getElem?_cons_zero]; rfl) (fun Kq hKq => ?_) AllReadyH.nil
          refine sgstep_append_span rfl _ _ rfl M v (bl.take k) (by rfl) HO.out (by omega) r5.heap.size (x1, x2) (by rfl) hn0 hn1 hMs ?_
          intro v' r7 hO7 hg7 hb7
          have hlo : ∀ b, v.ownBlock = some b → M ≤ b := fun b e => (HO.out.lt b e).1
          have hc7 : ∀ C, C ≤ M → Below C r6 r7 := fun C hC => grown_below hg7 (by omega) (fun b e => by have := hlo b e; omega)
          obtain ⟨va', vc', hv', -⟩ := hO7.val
          generalize (bl.take k ++ [(x1, x2)]).length = nl at hv'
          subst hv'
          replace HO := Lib.hid (show OwnSp r7 M (.slice va' nl vc') (bl.take (k + 1)) by rw [HTK.out]; exact hO7)
          replace HA := Lib.hid (HA.out.below (hc7 (A + 1) (by omega)) (Nat.lt_succ_self _))
          replace HS := Lib.hid (HS.out.below (hc7 (S + 1) (by omega)) (Nat.lt_succ_self _))
          replace HR := Lib.hid (HR.out.below (hc7 (R + 1) (by omega)) (Nat.lt_succ_self _))
          replace HK := Lib.hid ((hc7 (T + 1) (by omega)).cell (p := ⟨T, 0, none⟩) (Nat.lt_succ_self _) |>.trans HK.out)
          replace HW := Lib.hid (HW.out.trans (grown_below hg7 (by omega) (fun b e => by have := hlo b e; omega)))
          replace hMs := Nat.le_trans hMs hg7.size
          have hz7 := hg7.size
          clear hO7 hg7 hb7 hlo hc7 hn0 hn1 hch0
          refine hKq.out _ _ (trivial) (fun hHeld2 => ?_)
          clear hKq Kq hHeld
          (try simp only [Act.put, List.setIfInBounds_toArray, List.set_cons_zero, List.set_cons_succ])
          have hHeld := hHeld2
          clear hHeld2
          refine wpAnyH_take (i := 9) (v := ?_) (by simp only [List.getElem?_toArray, List.getElem?_cons_succ, List.getElem?_cons_zero]; rfl) (by kernel_rfl) (by kernel_rfl) (by kernel_rfl) (by exact fun _ _ _ h => h) (Or.inl ⟨by rfl, ?_⟩) (by assumption) ?_
          rotate_left 1
          · intro w hSw; (try dsimp only at hSw); go_simp; (try with_reducible rfl)
          (try simp only [Act.put, List.setIfInBounds_toArray, List.set_cons_zero, List.set_cons_succ])
          obtain ⟨c11, f11⟩ := HS.out.c11
          refine wpAnyH_ready (rs := [10]) (by kernel_rfl) (by simp) ?_
          refine AllReadyH.cons (by simp only [List.getElem?_toArray, List.getElem?_cons_succ, List.getElem?_cons_zero]; rfl) (fun Kq hKq => ?_) AllReadyH.nil
          go_simp
          refine hKq.out _ _ trivial (fun hHeld2 => ?_)
          clear hKq Kq hHeld
          (try simp only [Act.put, List.setIfInBounds_toArray, List.set_cons_zero, List.set_cons_succ])
          have hHeld := hHeld2
          clear hHeld2
          have hne7 : (Value.slice va' nl vc').ownBlock ≠ some S := fun e => by have := (HO.out.lt _ e).1; omega
          have hch7 := (Chg.refl S r7).setCell 11 (.slice va' nl vc')
          replace HO := Lib.hid (HO.out.setCell S 11 (.slice va' nl vc') hne7)
          replace HA := Lib.hid (sgat_chg HA.out hch7 (by omega))
          replace HK := Lib.hid (sgcell_chg HK.out hch7 (by omega))
          replace HR := Lib.hid (HR.out.chg hch7 (by omega))
          replace HW := Lib.hid (HW.out.trans (hch7.below (by omega) HS.out.c0.lt))
          replace hMs := Nat.le_trans hMs hch7.size
          replace HS := Lib.hid (HS.out.set11 (.slice va' nl vc'))
          clear c11 f11 hne7 hch7
          generalize r7.setCell ⟨S, 11, none⟩ (.slice va' nl vc') = r8 at HS HA HK HR HW HO hMs hHeld ⊢
          refine wpAnyH_done (by kernel_rfl) ?_ _
          clear hHeld
          go_wp2_with fail
          exact ⟨⟨k + 1, _, hlt, by simp, HS.out, HO.out, HA.out, HK.out, HR.out, HW.out, hMs⟩, by simp [intOf]; omega⟩
        · go_simp
          refine (sgget_any T A t (24 + 8 * k) 4 x2 _ (by omega) (by omega) (by omega) (by omega) HX2.out HK.out HA.out (by omega)).mono ?_
          rintro e r5 ⟨rfl, hA, hc⟩
          replace HA := Lib.hid (show At A 0 (.int .i64 ((20 + 8 * (k + 1) : Nat) : Int)) r5 by rw [show ((20 + 8 * (k + 1) : Nat) : Int) = ((24 + 8 * k : Nat) : Int) + ((4 : Nat) : Int) by omega]; exact hA)
          replace HK := Lib.hid (sgcell_chg HK.out hc (by omega))
          replace HR := Lib.hid (HR.out.chg hc (by omega))
          replace HS := Lib.hid (HS.out.chg hc (by omega))
          replace HO := Lib.hid (HO.out.kept (row := some A) ⟨hc.os, hc.tape, hc.output, hc.size, fun j hj hne => hc.block j hj (fun e => hne (by rw [e]))⟩ (.inr (fun e => by have := (HO.out.lt _ e).1; omega)))
          replace HW := Lib.hid (HW.out.trans (hc.below (by omega) hAl))
          replace hMs := Nat.le_trans hMs hc.size
          have hAl2 := HA.out.lt
          clear hA hc hAl
          have hAl := hAl2
          clear hAl2
          go_simp
          refine hKq.out _ _ trivial (fun hHeld2 => ?_)
          clear hKq Kq hHeld
          (try simp only [Act.put, List.setIfInBounds_toArray, List.set_cons_zero, List.set_cons_succ])
          have hHeld := hHeld2
          clear hHeld2
          refine wpAnyH_take (i := 6) (v := ?_) (by simp only [List.getElem?_toArray, List.getElem?_cons_succ, List.getElem?_cons_zero]; rfl) (by kernel_rfl) (by kernel_rfl) (by kernel_rfl) (by exact fun _ _ _ h => h) (Or.inl ⟨by rfl, ?_⟩) (by assumption) ?_
          rotate_left 1
          · intro w hSw; (try dsimp only at hSw); go_simp; (try with_reducible rfl)
          (try simp only [Act.put, List.setIfInBounds_toArray, List.set_cons_zero, List.set_cons_succ])
          refine wpAnyH_ready (rs := [1, 7]) (by kernel_rfl) (by simp) ?_
          refine AllReadyH.cons (by simp only [List.getElem?_toArray, List.getElem?_cons_succ, List.getElem?_cons_zero]; rfl) (fun Kq hKq => ?_) (AllReadyH.cons (by simp only [List.getElem?_toArray, List.getElem?_cons_succ, List.getElem?_cons_zero]; rfl) (fun Kq hKq => ?_) AllReadyH.nil)
          · obtain ⟨c11, f11⟩ := HS.out.c11
            go_simp
            refine hKq.out _ _ trivial (fun hHeld2 => ?_)
            clear hKq Kq hHeld
            (try simp only [Act.put, List.setIfInBounds_toArray, List.set_cons_zero, List.set_cons_succ])
            have hHeld := hHeld2
            clear hHeld2
            clear c11 f11
            refine wpAnyH_ready (rs := [7]) (by kernel_rfl) (by simp) ?_
            refine AllReadyH.cons (by simp only [List.getElem?_toArray, List.getElem?_cons_succ, List.getElem?_cons_zero]; rfl) (fun Kq hKq => ?_) AllReadyH.nil
            go_simp
            refine hKq.out _ _ trivial (fun hHeld2 => ?_)
            clear hKq Kq hHeld
            (try simp only [Act.put, List.setIfInBounds_toArray, List.set_cons_zero, List.set_cons_succ])
            have hHeld := hHeld2
            clear hHeld2
            have hch0 : Chg A r5 (r5.alloc (.cells #[.int .i64 x1, .int .i64 x2] 51)) := Chg.of_below (sgBelow _ _)
            have hn0 : (r5.alloc (.cells #[.int .i64 x1, .int .i64 x2] 51)).cell? ⟨r5.heap.size, 0, none⟩ = some (.int .i64 x1) := (At.new (W := r5) (vs := #[.int .i64 x1, .int .i64 x2]) _ rfl rfl).1
            have hn1 : (r5.alloc (.cells #[.int .i64 x1, .int .i64 x2] 51)).cell? ⟨r5.heap.size, 1, none⟩ = some (.int .i64 x2) := (At.new (W := r5) (vs := #[.int .i64 x1, .int .i64 x2]) _ rfl rfl).1
            have hsz0 : (r5.alloc (.cells #[.int .i64 x1, .int .i64 x2] 51)).heap.size = r5.heap.size + 1 := by simp
            replace HS := Lib.hid (HS.out.chg hch0 (by omega))
            replace HA := Lib.hid (HA.out.alloc (.cells #[.int .i64 x1, .int .i64 x2] 51))
            replace HK := Lib.hid (sgcell_chg HK.out hch0 (by omega))
            replace HR := Lib.hid (HR.out.chg hch0 (by omega))
            replace HW := Lib.hid (HW.out.alloc HW.out.size (.cells #[.int .i64 x1, .int .i64 x2] 51))
            replace HO := Lib.hid (HO.out.alloc (.cells #[.int .i64 x1, .int .i64 x2] 51))
            replace hMs := Nat.le_trans hMs hch0.size
            replace hAl := Nat.lt_of_lt_of_le hAl hch0.size
            generalize r5.alloc (.cells #[.int .i64 x1, .int .i64 x2] 51) = r6 at HS HA HK HR HW HO hMs hAl hn0 hn1 hch0 hsz0 hHeld ⊢
            refine wpAnyH_ready (rs := [8]) (by kernel_rfl) (by simp) ?_
            refine AllReadyH.cons (by simp only [List.getElem?_toArray, List.getElem?_cons_succ, List.getElem?_cons_zero]; rfl) (fun Kq hKq => ?_) AllReadyH.nil
            refine sgstep_append_span rfl _ _ rfl M v (bl.take k) (by rfl) HO.out (by omega) r5.heap.size (x1, x2) (by rfl) hn0 hn1 hMs ?_
            intro v' r7 hO7 hg7 hb7
            have hlo : ∀ b, v.ownBlock = some b → M ≤ b := fun b e => (HO.out.lt b e).1
            have hc7 : ∀ C, C ≤ M → Below C r6 r7 := fun C hC => grown_below hg7 (by omega) (fun b e => by have := hlo b e; omega)
            obtain ⟨va', vc', hv', -⟩ := hO7.val
            generalize (bl.take k ++ [(x1, x2)]).length = nl at hv'
            subst hv'
            replace HO := Lib.hid (show OwnSp r7 M (.slice va' nl vc') (bl.take (k + 1)) by rw [HTK.out]; exact hO7)
            replace HA := Lib.hid (HA.out.below (hc7 (A + 1) (by omega)) (Nat.lt_succ_self _))
            replace HS := Lib.hid (HS.out.below (hc7 (S + 1) (by omega)) (Nat.lt_succ_self _))
            replace HR := Lib.hid (HR.out.below (hc7 (R + 1) (by omega)) (Nat.lt_succ_self _))
            replace HK := Lib.hid ((hc7 (T + 1) (by omega)).cell (p := ⟨T, 0, none⟩) (Nat.lt_succ_self _) |>.trans HK.out)
            replace HW := Lib.hid (HW.out.trans (grown_below hg7 (by omega) (fun b e => by have := hlo b e; omega)))
            replace hMs := Nat.le_trans hMs hg7.size
            have hz7 := hg7.size
            clear hO7 hg7 hb7 hlo hc7 hn0 hn1 hch0
            refine hKq.out _ _ (trivial) (fun hHeld2 => ?_)
            clear hKq Kq hHeld
            (try simp only [Act.put, List.setIfInBounds_toArray, List.set_cons_zero, List.set_cons_succ])
            have hHeld := hHeld2
            clear hHeld2
            refine wpAnyH_take (i := 9) (v := ?_) (by simp only [List.getElem?_toArray, List.getElem?_cons_succ, List.getElem?_cons_zero]; rfl) (by kernel_rfl) (by kernel_rfl) (by kernel_rfl) (by exact fun _ _ _ h => h) (Or.inl ⟨by rfl, ?_⟩) (by assumption) ?_
            rotate_left 1
            · intro w hSw; (try dsimp only at hSw); go_simp; (try with_reducible rfl)
            (try simp only [Act.put, List.setIfInBounds_toArray, List.set_cons_zero, List.set_cons_succ])
            obtain ⟨c11, f11⟩ := HS.out.c11
            refine wpAnyH_ready (rs := [10]) (by kernel_rfl) (by simp) ?_
            refine AllReadyH.cons (by simp only [List.getElem?_toArray, List.getElem?_cons_succ, List.getElem?_cons_zero]; rfl) (fun Kq hKq => ?_) AllReadyH.nil
            go_simp
            refine hKq.out _ _ trivial (fun hHeld2 => ?_)
            clear hKq Kq hHeld
            (try simp only [Act.put, List.setIfInBounds_toArray, List.set_cons_zero, List.set_cons_succ])
            have hHeld := hHeld2
            clear hHeld2
            have hne7 : (Value.slice va' nl vc').ownBlock ≠ some S := fun e => by have := (HO.out.lt _ e).1; omega
            have hch7 := (Chg.refl S r7).setCell 11 (.slice va' nl vc')
            replace HO := Lib.hid (HO.out.setCell S 11 (.slice va' nl vc') hne7)
            replace HA := Lib.hid (sgat_chg HA.out hch7 (by omega))
            replace HK := Lib.hid (sgcell_chg HK.out hch7 (by omega))
            replace HR := Lib.hid (HR.out.chg hch7 (by omega))
            replace HW := Lib.hid (HW.out.trans (hch7.below (by omega) HS.out.c0.lt))
            replace hMs := Nat.le_trans hMs hch7.size
            replace HS := Lib.hid (HS.out.set11 (.slice va' nl vc'))
            clear c11 f11 hne7 hch7
            generalize r7.setCell ⟨S, 11, none⟩ (.slice va' nl vc') = r8 at HS HA HK HR HW HO hMs hHeld ⊢
            refine wpAnyH_done (by kernel_rfl) ?_ _
            clear hHeld
            go_wp2_with fail
            exact ⟨⟨k + 1, _, hlt, by simp, HS.out, HO.out, HA.out, HK.out, HR.out, HW.out, hMs⟩, by simp [intOf]; omega⟩
          · go_simp
            refine hKq.out _ _ trivial (fun hHeld2 => ?_)
            clear hKq Kq hHeld
            (try simp only [Act.put, List.setIfInBounds_toArray, List.set_cons_zero, List.set_cons_succ])
            have hHeld := hHeld2
            clear hHeld2
            have hch0 : Chg A r5 (r5.alloc (.cells #[.int .i64 x1, .int .i64 x2] 51)) := Chg.of_below (sgBelow _ _)
            have hn0 : (r5.alloc (.cells #[.int .i64 x1, .int .i64 x2] 51)).cell? ⟨r5.heap.size, 0, none⟩ = some (.int .i64 x1) := (At.new (W := r5) (vs := #[.int .i64 x1, .int .i64 x2]) _ rfl rfl).1
            have hn1 : (r5.alloc (.cells #[.int .i64 x1, .int .i64 x2] 51)).cell? ⟨r5.heap.size, 1, none⟩ = some (.int .i64 x2) := (At.new (W := r5) (vs := #[.int .i64 x1, .int .i64 x2]) _ rfl rfl).1
            have hsz0 : (r5.alloc (.cells #[.int .i64 x1, .int .i64 x2] 51)).heap.size = r5.heap.size + 1 := by simp
            replace HS := Lib.hid (HS.out.chg hch0 (by omega))
            replace HA := Lib.hid (HA.out.alloc (.cells #[.int .i64 x1, .int .i64 x2] 51))
            replace HK := Lib.hid (sgcell_chg HK.out hch0 (by omega))
            replace HR := Lib.hid (HR.out.chg hch0 (by omega))
            replace HW := Lib.hid (HW.out.alloc HW.out.size (.cells #[.int .i64 x1, .int .i64 x2] 51))
            replace HO := Lib.hid (HO.out.alloc (.cells #[.int .i64 x1, .int .i64 x2] 51))
            replace hMs := Nat.le_trans hMs hch0.size
            replace hAl := Nat.lt_of_lt_of_le hAl hch0.size
            generalize r5.alloc (.cells #[.int .i64 x1, .int .i64 x2] 51) = r6 at HS HA HK HR HW HO hMs hAl hn0 hn1 hch0 hsz0 hHeld ⊢
            refine wpAnyH_ready (rs := [1]) (by kernel_rfl) (by simp) ?_
            refine AllReadyH.cons (by simp only [List.getElem?_toArray, List.getElem?_cons_succ, List.getElem?_cons_zero]; rfl) (fun Kq hKq => ?_) AllReadyH.nil
            obtain ⟨c11, f11⟩ := HS.out.c11
            go_simp
            refine hKq.out _ _ trivial (fun hHeld2 => ?_)
            clear hKq Kq hHeld
            (try simp only [Act.put, List.setIfInBounds_toArray, List.set_cons_zero, List.set_cons_succ])
            have hHeld := hHeld2
            clear hHeld2
            clear c11 f11
            refine wpAnyH_ready (rs := [8]) (by kernel_rfl) (by simp) ?_
            refine AllReadyH.cons (by simp only [List.getElem?_toArray, List.getElem?_cons_succ, List.getElem?_cons_zero]; rfl) (fun Kq hKq => ?_) AllReadyH.nil
            refine sgstep_append_span rfl _ _ rfl M v (bl.take k) (by rfl) HO.out (by omega) r5.heap.size (x1, x2) (by rfl) hn0 hn1 hMs ?_
            intro v' r7 hO7 hg7 hb7
            have hlo : ∀ b, v.ownBlock = some b → M ≤ b := fun b e => (HO.out.lt b e).1
            have hc7 : ∀ C, C ≤ M → Below C r6 r7 := fun C hC => grown_below hg7 (by omega) (fun b e => by have := hlo b e; omega)
            obtain ⟨va', vc', hv', -⟩ := hO7.val
            generalize (bl.take k ++ [(x1, x2)]).length = nl at hv'
            subst hv'
            replace HO := Lib.hid (show OwnSp r7 M (.slice va' nl vc') (bl.take (k + 1)) by rw [HTK.out]; exact hO7)
            replace HA := Lib.hid (HA.out.below (hc7 (A + 1) (by omega)) (Nat.lt_succ_self _))
            replace HS := Lib.hid (HS.out.below (hc7 (S + 1) (by omega)) (Nat.lt_succ_self _))
            replace HR := Lib.hid (HR.out.below (hc7 (R + 1) (by omega)) (Nat.lt_succ_self _))
            replace HK := Lib.hid ((hc7 (T + 1) (by omega)).cell (p := ⟨T, 0, none⟩) (Nat.lt_succ_self _) |>.trans HK.out)
            replace HW := Lib.hid (HW.out.trans (grown_below hg7 (by omega) (fun b e => by have := hlo b e; omega)))
            replace hMs := Nat.le_trans hMs hg7.size
            have hz7 := hg7.size
            clear hO7 hg7 hb7 hlo hc7 hn0 hn1 hch0
            refine hKq.out _ _ (trivial) (fun hHeld2 => ?_)
            clear hKq Kq hHeld
            (try simp only [Act.put, List.setIfInBounds_toArray, List.set_cons_zero, List.set_cons_succ])
            have hHeld := hHeld2
            clear hHeld2
            refine wpAnyH_take (i := 9) (v := ?_) (by simp only [List.getElem?_toArray, List.getElem?_cons_succ, List.getElem?_cons_zero]; rfl) (by kernel_rfl) (by kernel_rfl) (by kernel_rfl) (by exact fun _ _ _ h => h) (Or.inl ⟨by rfl, ?_⟩) (by assumption) ?_
            rotate_left 1
            · intro w hSw; (try dsimp only at hSw); go_simp; (try with_reducible rfl)
            (try simp only [Act.put, List.setIfInBounds_toArray, List.set_cons_zero, List.set_cons_succ])
            obtain ⟨c11, f11⟩ := HS.out.c11
            refine wpAnyH_ready (rs := [10]) (by kernel_rfl) (by simp) ?_
            refine AllReadyH.cons (by simp only [List.getElem?_toArray, List.getElem?_cons_succ, List.getElem?_cons_zero]; rfl) (fun Kq hKq => ?_) AllReadyH.nil
            go_simp
            refine hKq.out _ _ trivial (fun hHeld2 => ?_)
            clear hKq Kq hHeld
            (try simp only [Act.put, List.setIfInBounds_toArray, List.set_cons_zero, List.set_cons_succ])
            have hHeld := hHeld2
            clear hHeld2
            have hne7 : (Value.slice va' nl vc').ownBlock ≠ some S := fun e => by have := (HO.out.lt _ e).1; omega
            have hch7 := (Chg.refl S r7).setCell 11 (.slice va' nl vc')
            replace HO := Lib.hid (HO.out.setCell S 11 (.slice va' nl vc') hne7)
            replace HA := Lib.hid (sgat_chg HA.out hch7 (by omega))
            replace HK := Lib.hid (sgcell_chg HK.out hch7 (by omega))
            replace HR := Lib.hid (HR.out.chg hch7 (by omega))
            replace HW := Lib.hid (HW.out.trans (hch7.below (by omega) HS.out.c0.lt))
            replace hMs := Nat.le_trans hMs hch7.size
            replace HS := Lib.hid (HS.out.set11 (.slice va' nl vc'))
            clear c11 f11 hne7 hch7
            generalize r7.setCell ⟨S, 11, none⟩ (.slice va' nl vc') = r8 at HS HA HK HR HW HO hMs hHeld ⊢
            refine wpAnyH_done (by kernel_rfl) ?_ _
            clear hHeld
            go_wp2_with fail
            exact ⟨⟨k + 1, _, hlt, by simp, HS.out, HO.out, HA.out, HK.out, HR.out, HW.out, hMs⟩, by simp [intOf]; omega⟩
    · obtain rfl : k = nb := by omega
      obtain ⟨a, cap, hv, -⟩ := HO.out.val
      rw [show bl.take k = bl by rw [← HNB.out, List.take_length]] at HO hv
      subst hv
      obtain ⟨u0, u1, u2, u3, u4, u5, u6, u7, u8, u9, u10, u11, u12, HRC0⟩ := HR.out.sgc
      have HRC := Lib.hid HRC0
      clear HRC0
      have a0 := HA.out.1
      have k0 := HK.out
      obtain ⟨c0, f0⟩ := HS.out.c0
      obtain ⟨c1, f1⟩ := HS.out.c1
      obtain ⟨c2, f2⟩ := HS.out.c2
      obtain ⟨c3, f3⟩ := HS.out.c3
      obtain ⟨c4, f4⟩ := HS.out.c4
      obtain ⟨c5, f5⟩ := HS.out.c5
      obtain ⟨c6, f6⟩ := HS.out.c6
      obtain ⟨c7, f7⟩ := HS.out.c7
      obtain ⟨c8, f8⟩ := HS.out.c8
      obtain ⟨c9, f9⟩ := HS.out.c9
      obtain ⟨c10, f10⟩ := HS.out.c10
      obtain ⟨c11, f11⟩ := HS.out.c11
      obtain ⟨c12, f12⟩ := HS.out.c12
      obtain ⟨r0, q0⟩ := HRC.out.c0
      obtain ⟨r1, q1⟩ := HRC.out.c1
      obtain ⟨r2, q2⟩ := HRC.out.c2
      obtain ⟨r3, q3⟩ := HRC.out.c3
      obtain ⟨r4, q4⟩ := HRC.out.c4
      obtain ⟨r5, q5⟩ := HRC.out.c5
      obtain ⟨r6, q6⟩ := HRC.out.c6
      obtain ⟨r7, q7⟩ := HRC.out.c7
      obtain ⟨r8, q8⟩ := HRC.out.c8
      obtain ⟨r9, q9⟩ := HRC.out.c9
      obtain ⟨r10, q10⟩ := HRC.out.c10
      obtain ⟨r11, q11⟩ := HRC.out.c11
      obtain ⟨r12, q12⟩ := HRC.out.c12
      go_wp2_with fail
      clear c0 f0 r0 q0 c1 f1 r1 q1 c2 f2 r2 q2 c3 f3 r3 q3 c4 f4 r4 q4 c5 f5 r5 q5 c6 f6 r6 q6 c7 f7 r7 q7 c8 f8 r8 q8 c9 f9 r9 q9 c10 f10 r10 q10 c11 f11 r11 q11 c12 f12 r12 q12 a0 k0
      have HXS := Lib.hid (show (t.extract (20 + 8 * k) t.size).data.toList = s by rw [extract_tail t _ hlen2]; exact HATS.out)
      generalize t.extract (20 + 8 * k) t.size = S2 at HXS ⊢
      have hch := (Chg.refl S wr).setCell 12 (.string S2)
      have hO1 := HO.out.setCell S 12 (.string S2) (fun e => by have := (HO.out.lt _ e).1; omega)
      replace HRC := Lib.hid (HRC.out.chg hch (by omega))
      replace HW := Lib.hid (HW.out.trans (hch.below (by omega) HS.out.c0.lt))
      clear HS HA HK HR
      generalize wr.setCell ⟨S, 12, none⟩ (.string S2) = W12 at hch hO1 HRC HW ⊢
      have hD := (((((((((((((HRC.out.set0 (.int .i64 fp)).set1 (.int .i64 tp)).set2 (.int .i64 sq)).set3 (.int .i64 ak)).set4 (.bool syn)).set5 (.bool fin)).set6 (.bool rst)).set7 (.bool has)).set8 (.int .i64 win)).set9 (.int .i64 mss)).set10 (.bool sacks)).set11 (.slice a bl.length cap)).set12 (.string S2))
      have hch2 := (((((((((((((Chg.refl R W12).setCell 0 (.int .i64 fp)).setCell 1 (.int .i64 tp)).setCell 2 (.int .i64 sq)).setCell 3 (.int .i64 ak)).setCell 4 (.bool syn)).setCell 5 (.bool fin)).setCell 6 (.bool rst)).setCell 7 (.bool has)).setCell 8 (.int .i64 win)).setCell 9 (.int .i64 mss)).setCell 10 (.bool sacks)).setCell 11 (.slice a bl.length cap)).setCell 12 (.string S2)
      generalize (((((((((((((W12.setCell ⟨R, 0, none⟩ (.int .i64 fp)).setCell ⟨R, 1, none⟩ (.int .i64 tp)).setCell ⟨R, 2, none⟩ (.int .i64 sq)).setCell ⟨R, 3, none⟩ (.int .i64 ak)).setCell ⟨R, 4, none⟩ (.bool syn)).setCell ⟨R, 5, none⟩ (.bool fin)).setCell ⟨R, 6, none⟩ (.bool rst)).setCell ⟨R, 7, none⟩ (.bool has)).setCell ⟨R, 8, none⟩ (.int .i64 win)).setCell ⟨R, 9, none⟩ (.int .i64 mss)).setCell ⟨R, 10, none⟩ (.bool sacks)).setCell ⟨R, 11, none⟩ (.slice a bl.length cap)).setCell ⟨R, 12, none⟩ (.string S2)) = W13 at hD hch2 ⊢
      have hO2 : OwnSp W13 M (.slice a bl.length cap) bl := hO1.kept (row := some R) ⟨hch2.os, hch2.tape, hch2.output, hch2.size, fun j hj hne => hch2.block j hj (fun e => hne (by rw [e]))⟩ (.inr (fun e => by have := (hO1.lt _ e).1; omega))
      replace HW := Lib.hid (HW.out.trans (hch2.below (by omega) HRC.out.c0.lt))
      obtain ⟨⟨d0, -⟩, ⟨d1, -⟩, ⟨d2, -⟩, ⟨d3, -⟩, ⟨d4, -⟩, ⟨d5, -⟩, ⟨d6, -⟩, ⟨d7, -⟩, ⟨d8, -⟩, ⟨d9, -⟩, ⟨d10, -⟩, ⟨d11, -⟩, ⟨d12, -⟩⟩ := hD
      refine bodyPost_ret (v := .tuple #[.agg #[.int .i64 fp, .int .i64 tp, .int .i64 sq, .int .i64 ak, .bool syn, .bool fin, .bool rst, .bool has, .int .i64 win, .int .i64 mss, .bool sacks, .slice a bl.length cap, .string S2], .bool true]) (by simp [results, Try.results50, go_sem, d0, d1, d2, d3, d4, d5, d6, d7, d8, d9, d10, d11, d12]) rfl ⟨a, cap, S2, rfl, HXS.out, hO2.mono hMw, HW.out⟩

end Go.Proofs.Ytncjeleabpodaaa
