/- A list of spans that a struct holds. -/
import Derived.Test.YtncjeleabpodaaaScSt
import Derived.Test.YtncjeleabpodaaaRgKit
import Derived.Test.YtncjeleabpodaaaChg
namespace Go.Proofs.Ytncjeleabpodaaa
open Go.RowKit Go.Shelf
/-- A list that the scoreboard holds: it lies from block lb on. -/
def LstAt (lb : Nat) (L : List Sp) (a : Option Addr) (cap : Nat) (W : World) : Prop := SpAt W W.heap.size a L ∧ L.length ≤ cap ∧ (0 < L.length → ∀ ad, a = some ad → lb ≤ ad.block) ∧ ∀ ad, a = some ad → ad = ⟨ad.block, ad.off, none⟩
theorem LstAt.below {lb : Nat} {L : List Sp} {a : Option Addr} {cap : Nat} {W W' : World} (h : LstAt lb L a cap W) (hb : Below W.heap.size W W') : LstAt lb L a cap W' := ⟨(h.1.below hb).mono hb.size, h.2⟩
theorem LstAt.other {lb C : Nat} {L : List Sp} {a : Option Addr} {cap : Nat} {W W' : World} (h : LstAt lb L a cap W) (hc : Chg C W W') (hC : C < lb) : LstAt lb L a cap W' := by
  refine ⟨⟨h.1.small, fun hl => ?_⟩, h.2⟩
  obtain ⟨b, o, ha, hb, hcs⟩ := h.1.cells hl
  have hne : b ≠ C := by have := h.2.2.1 hl _ ha; dsimp only at this; omega
  have hk := hc.block b hb hne
  exact ⟨b, o, ha, Nat.lt_of_lt_of_le hb hc.size, fun i hi => ⟨(World.cell?_of_block (a := ⟨b, _, none⟩) hk).trans (hcs i hi).1, (World.cell?_of_block (a := ⟨b, _, none⟩) hk).trans (hcs i hi).2⟩⟩
theorem LstAt.own {lb base : Nat} {L : List Sp} {a : Option Addr} {n cap : Nat} {W : World} (h : OwnSp W base (.slice a n cap) L) (hs : L.length ≤ 1099511627776) (hb : lb ≤ base) : LstAt lb L a cap W ∧ n = L.length := by
  obtain ⟨a', c', hv, hsp, hc, hap⟩ := h.at hs
  cases hv
  exact ⟨⟨hsp, hc, fun _ ad e => Nat.le_trans hb (hap ad e).1, fun ad e => (hap ad e).2.2⟩, rfl⟩
theorem LstAt.nil (lb : Nat) (W : World) : LstAt lb [] none 0 W := ⟨⟨by simp, fun h => absurd h (by simp)⟩, by simp, fun h => absurd h (by simp), fun ad e => by cases e⟩
theorem LstAt.set {lb B i : Nat} {L : List Sp} {a : Option Addr} {cap : Nat} {W : World} (h : LstAt lb L a cap W) (hB : B < lb) (v : Value) : LstAt lb L a cap (W.setCell ⟨B, i, none⟩ v) := h.other ((Chg.refl B W).setCell i v) hB
theorem LstAt.mono {lb lb' : Nat} {L : List Sp} {a : Option Addr} {cap : Nat} {W : World} (h : LstAt lb' L a cap W) (hb : lb ≤ lb') : LstAt lb L a cap W := ⟨h.1, h.2.1, fun hl ad e => Nat.le_trans hb (h.2.2.1 hl ad e), h.2.2.2⟩
/-- A list that came in, apart from block B. -/
def InL (B : Nat) (a : Option Addr) (L : List Sp) (W : World) : Prop := SpAt W W.heap.size a L ∧ (0 < L.length → ∀ ad, a = some ad → ad.block ≠ B)
theorem InL.chg {B : Nat} {a : Option Addr} {L : List Sp} {W W' : World} (h : InL B a L W) (hc : Chg B W W') : InL B a L W' := by
  refine ⟨⟨h.1.small, fun hl => ?_⟩, h.2⟩
  obtain ⟨b, o, ha, hb, hcs⟩ := h.1.cells hl
  have hk := hc.block b hb (by have := h.2 hl _ ha; exact this)
  exact ⟨b, o, ha, Nat.lt_of_lt_of_le hb hc.size, fun i hi => ⟨(World.cell?_of_block (a := ⟨b, _, none⟩) hk).trans (hcs i hi).1, (World.cell?_of_block (a := ⟨b, _, none⟩) hk).trans (hcs i hi).2⟩⟩
theorem cell_chg {B C i : Nat} {v : Value} {w w' : World} (h : w.cell? ⟨B, i, none⟩ = some v) (hc : Chg C w w') (hne : B ≠ C) : w'.cell? ⟨B, i, none⟩ = some v :=
  (World.cell?_of_block (a := ⟨B, i, none⟩) (hc.block B (block_lt_of_cell h) hne)).trans h
theorem at_chg {B C i : Nat} {v : Value} {w w' : World} (h : At B i v w) (hc : Chg C w w') (hne : B ≠ C) : At B i v w' := by
  have hb := hc.block B h.lt hne
  exact ⟨(World.cell?_of_block (a := ⟨B, i, none⟩) hb).trans h.1, (World.frozen?_of_block (a := ⟨B, i, none⟩) hb).trans h.2⟩
end Go.Proofs.Ytncjeleabpodaaa
