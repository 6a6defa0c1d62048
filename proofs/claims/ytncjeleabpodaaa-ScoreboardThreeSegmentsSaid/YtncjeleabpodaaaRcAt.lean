/- The reference's scoreboard in memory; its small methods. -/
import Derived.Test.YtncjeleabpodaaaScLst
import Derived.Test.YtncjeleabpodaaaRcPl
import Derived.Test.YtncjeleabpodaaaRfAdd
import Derived.Test.YtncjeleabpodaaaRfGaps
import Derived.Test.YtncjeleabpodaaaRfSame
import Derived.Deep.RegionHeld3
namespace Go.Proofs.Ytncjeleabpodaaa
open Go.RowKit Go.Shelf
def rcCells (s : Sc) (sa : Option Addr) (sc : Nat) (ga : Option Addr) (gc : Nat) : Array Value := #[.int .i64 s.una, .int .i64 s.next, .slice sa s.sk.length sc, .slice ga s.ag.length gc, .int .i64 s.mark]
/-- Block B holds the reference's scoreboard s, its lists from block lb on. -/
def RcAt (B lb : Nat) (s : Sc) (W : World) : Prop := B < lb ∧ lb ≤ W.heap.size ∧ ∃ sa sc ga gc, W.heap[B]? = some (.cells (rcCells s sa sc ga gc) 87 (0, 0)) ∧ LstAt lb s.sk sa sc W ∧ LstAt lb s.ag ga gc W
theorem RcAt.lt {B lb : Nat} {s : Sc} {W : World} (h : RcAt B lb s W) : B < W.heap.size := Nat.lt_of_lt_of_le h.1 h.2.1
theorem RcAt.below {B lb : Nat} {s : Sc} {W W' : World} (h : RcAt B lb s W) (hb : Below W.heap.size W W') : RcAt B lb s W' := by
  have hl := h.lt
  obtain ⟨h1, h2, sa, sc, ga, gc, hc, ls, lg⟩ := h
  exact ⟨h1, Nat.le_trans h2 hb.size, sa, sc, ga, gc, (hb.block B hl).trans hc, ls.below hb, lg.below hb⟩
theorem RcAt.other {B C lb : Nat} {s : Sc} {W W' : World} (h : RcAt B lb s W) (hc : Chg C W W') (hne : B ≠ C) (hC : C < lb) : RcAt B lb s W' := by
  have hl := h.lt
  obtain ⟨h1, h2, sa, sc, ga, gc, hcs, ls, lg⟩ := h
  exact ⟨h1, Nat.le_trans h2 hc.size, sa, sc, ga, gc, (hc.block B hl hne).trans hcs, ls.other hc hC, lg.other hc hC⟩
/-- The five cells. -/
theorem RcAt.ats {B lb : Nat} {s : Sc} {W : World} (h : RcAt B lb s W) : ∃ sa sc ga gc, At B 0 (.int .i64 s.una) W ∧ At B 1 (.int .i64 s.next) W ∧ At B 2 (.slice sa s.sk.length sc) W ∧ At B 3 (.slice ga s.ag.length gc) W ∧ At B 4 (.int .i64 s.mark) W ∧ LstAt lb s.sk sa sc W ∧ LstAt lb s.ag ga gc W := by
  obtain ⟨h1, h2, sa, sc, ga, gc, hc, ls, lg⟩ := h
  have c : ∀ i v, (rcCells s sa sc ga gc)[i]? = some v → At B i v W := fun i v hv => ⟨by rw [cell_of_row _ _ _ _ _ _ hc]; exact hv, frozen_of_row _ _ _ _ _ hc⟩
  exact ⟨sa, sc, ga, gc, c 0 _ rfl, c 1 _ rfl, c 2 _ rfl, c 3 _ rfl, c 4 _ rfl, ls, lg⟩
theorem RcAt.set {B lb : Nat} {s s' : Sc} {W : World} (h : RcAt B lb s W) (i : Nat) (v : Value) (hk : s'.sk = s.sk) (hg : s'.ag = s.ag) (he : ∀ sa sc ga gc, (rcCells s sa sc ga gc).setIfInBounds i v = rcCells s' sa sc ga gc) : RcAt B lb s' (W.setCell ⟨B, i, none⟩ v) := by
  obtain ⟨h1, h2, sa, sc, ga, gc, hc, ls, lg⟩ := h
  refine ⟨h1, by simp [World.setCell]; exact h2, sa, sc, ga, gc, ?_, by rw [hk]; exact ls.set h1 v, by rw [hg]; exact lg.set h1 v⟩
  rw [heap_setCell_same _ _ _ _ _ _ hc, he]
theorem RcAt.setSk {B lb : Nat} {s : Sc} {W : World} (h : RcAt B lb s W) {L : List Sp} {a : Option Addr} {cap : Nat} (hl : LstAt lb L a cap W) : RcAt B lb { s with sk := L } (W.setCell ⟨B, 2, none⟩ (.slice a L.length cap)) := by
  obtain ⟨h1, h2, sa, sc, ga, gc, hc, ls, lg⟩ := h
  refine ⟨h1, by simp [World.setCell]; exact h2, a, cap, ga, gc, ?_, hl.set h1 _, lg.set h1 _⟩
  rw [heap_setCell_same _ _ _ _ _ _ hc]
  rfl
theorem RcAt.setAg {B lb : Nat} {s : Sc} {W : World} (h : RcAt B lb s W) {L : List Sp} {a : Option Addr} {cap : Nat} (hl : LstAt lb L a cap W) : RcAt B lb { s with ag := L } (W.setCell ⟨B, 3, none⟩ (.slice a L.length cap)) := by
  obtain ⟨h1, h2, sa, sc, ga, gc, hc, ls, lg⟩ := h
  refine ⟨h1, by simp [World.setCell]; exact h2, sa, sc, a, cap, ?_, ls.set h1 _, hl.set h1 _⟩
  rw [heap_setCell_same _ _ _ _ _ _ hc]
  rfl
theorem rc_new {W : World} {lb : Nat} {w : World} (h : W.heap[w.heap.size]? = some (.cells (rcCells sc0 none 0 none 0) 87 (0, 0))) (h1 : w.heap.size < lb) (h2 : lb ≤ W.heap.size) : RcAt w.heap.size lb sc0 W :=
  ⟨h1, h2, none, 0, none, 0, h, LstAt.nil _ _, LstAt.nil _ _⟩
theorem rcBel (w : World) (o : Obj) : Below w.heap.size w (w.alloc o) := (Below.refl _ w).alloc (Nat.le_refl _) o
theorem rcin_any (B lb : Nat) (s : Sc) (x : Sp) (w : World) (h : RcAt B lb s w) :
    Calls Try.prog 107 #[.pointer (some ⟨B, 0, none⟩), .agg #[.int .i64 x.1, .int .i64 x.2]] w fun e w' => e = .returned (.bool (s.inB x)) ∧ Below w.heap.size w w' := by
  obtain ⟨x1, x2⟩ := x
  obtain ⟨sa, sc, ga, gc, -, ⟨c1, -⟩, -, -, -, -, -⟩ := h.ats
  have hl := h.lt
  have hb := rcBel w (.cells #[.int .i64 x1, .int .i64 x2] 51)
  have d1 := (hb.cell (p := ⟨B, 1, none⟩) hl).trans c1
  have HB := Lib.hid hb
  clear h hb c1
  by_cases h1 : 0 ≤ x1
  · by_cases h2 : x1 < x2
    · by_cases h3 : x2 ≤ s.next
      · have HR := Lib.hid (show s.inB (x1, x2) = true by rw [Sc.inB_iff]; exact ⟨h1, h2, h3⟩)
        rw [HR.out]
        go_enter Try.func107, Try.ntmps107
        go_wp2_with fail
        go_quiet (fail)
        go_wp2_with fail
        go_ret
        exact ⟨rfl, ⟨HB.out.os, HB.out.tape, HB.out.output, HB.out.size, HB.out.block⟩⟩
      · have HR := Lib.hid (show s.inB (x1, x2) = false by rw [← Bool.not_eq_true, Sc.inB_iff]; rintro ⟨-, -, h⟩; exact h3 h)
        rw [HR.out]
        have hd : decide (x2 ≤ s.next) = false := by rw [decide_eq_false_iff_not]; exact h3
        go_enter Try.func107, Try.ntmps107
        go_wp2_with fail
        go_quiet (fail)
        go_wp2_with fail
        go_ret
        exact ⟨rfl, ⟨HB.out.os, HB.out.tape, HB.out.output, HB.out.size, HB.out.block⟩⟩
    · have HR := Lib.hid (show s.inB (x1, x2) = false by rw [← Bool.not_eq_true, Sc.inB_iff]; rintro ⟨-, h, -⟩; exact h2 h)
      rw [HR.out]
      have hd : decide (x1 < x2) = false := by rw [decide_eq_false_iff_not]; exact h2
      go_enter Try.func107, Try.ntmps107
      go_wp2_with fail
      go_quiet (fail)
      go_wp2_with fail
      go_ret
      exact ⟨rfl, ⟨HB.out.os, HB.out.tape, HB.out.output, HB.out.size, HB.out.block⟩⟩
  · have HR := Lib.hid (show s.inB (x1, x2) = false by rw [← Bool.not_eq_true, Sc.inB_iff]; rintro ⟨h, -, -⟩; exact h1 h)
    rw [HR.out]
    have hd : decide (0 ≤ x1) = false := by rw [decide_eq_false_iff_not]; exact h1
    go_enter Try.func107, Try.ntmps107
    go_wp2_with fail
    go_quiet (fail)
    go_wp2_with fail
    go_ret
    exact ⟨rfl, ⟨HB.out.os, HB.out.tape, HB.out.output, HB.out.size, HB.out.block⟩⟩
theorem rcsent_any (B lb : Nat) (s : Sc) (tt : Int) (w : World) (h : RcAt B lb s w) :
    Calls Try.prog 91 #[.pointer (some ⟨B, 0, none⟩), .int .i64 tt] w fun e w' => e = .returned (.int .i64 (s.sentE tt)) ∧ RcAt B lb (s.sent tt) w' ∧ Chg B w w' := by
  obtain ⟨sa, sc, ga, gc, -, ⟨c1, f1⟩, -, -, -, -, -⟩ := h.ats
  have HS := Lib.hid h
  clear h
  by_cases h1 : s.next ≤ tt
  · by_cases h2 : tt ≤ 1099511627776
    · have hb : s.sentB tt = true := by unfold Sc.sentB; rw [decide_eq_true_iff]; exact ⟨h1, h2⟩
      have HE := Lib.hid (show s.sentE tt = 0 ∧ s.sent tt = { s with next := tt } by unfold Sc.sentE Sc.sent; rw [if_pos hb, if_pos hb]; exact ⟨rfl, rfl⟩)
      clear hb
      go_enter Try.func91, Try.ntmps91
      go_wp2_with fail
      go_ret
      refine ⟨by rw [HE.out.1]; rfl, ?_, (Chg.refl B w).setCell 1 _⟩
      rw [HE.out.2]
      exact HS.out.set 1 _ rfl rfl (fun _ _ _ _ => rfl)
    · have hb : s.sentB tt = false := by unfold Sc.sentB; rw [decide_eq_false_iff_not]; omega
      have HE := Lib.hid (show s.sentE tt = 140 ∧ s.sent tt = s by unfold Sc.sentE Sc.sent; rw [hb]; exact ⟨rfl, rfl⟩)
      clear hb
      go_enter Try.func91, Try.ntmps91
      go_wp2_with fail
      go_ret
      exact ⟨by rw [HE.out.1]; rfl, by rw [HE.out.2]; exact HS.out, Chg.refl B w⟩
  · have hb : s.sentB tt = false := by unfold Sc.sentB; rw [decide_eq_false_iff_not]; omega
    have HE := Lib.hid (show s.sentE tt = 140 ∧ s.sent tt = s by unfold Sc.sentE Sc.sent; rw [hb]; exact ⟨rfl, rfl⟩)
    clear hb
    go_enter Try.func91, Try.ntmps91
    go_wp2_with fail
    go_ret
    exact ⟨by rw [HE.out.1]; rfl, by rw [HE.out.2]; exact HS.out, Chg.refl B w⟩
theorem rctimeout_any (B lb : Nat) (s : Sc) (w : World) (h : RcAt B lb s w) :
    Calls Try.prog 96 #[.pointer (some ⟨B, 0, none⟩)] w fun e w' => e = .returned (.tuple #[]) ∧ RcAt B lb s.timeout w' ∧ Chg B w w' := by
  obtain ⟨sa, sc, ga, gc, -, ⟨c1, f1⟩, ⟨c2, f2⟩, ⟨c3, f3⟩, ⟨c4, f4⟩, -, -⟩ := h.ats
  have HS := Lib.hid h
  clear h
  go_enter Try.func96, Try.ntmps96
  go_wp2_with fail
  go_end0
  refine ⟨rfl, ?_, (((Chg.refl B w).setCell 2 _).setCell 3 _).setCell 4 _⟩
  exact ((HS.out.setSk (LstAt.nil lb w)).setAg (LstAt.nil lb _)).set 4 _ rfl rfl (fun _ _ _ _ => rfl)
end Go.Proofs.Ytncjeleabpodaaa
