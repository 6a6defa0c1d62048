/- The scoreboard in memory; its small methods. -/
import Derived.Test.YtncjeleabpodaaaScLst
import Derived.Test.YtncjeleabpodaaaScMrg
import Derived.Test.YtncjeleabpodaaaScWth
import Derived.Test.YtncjeleabpodaaaRgGaps
import Derived.Test.YtncjeleabpodaaaRgCount
import Derived.Test.YtncjeleabpodaaaChg
import Derived.Deep.RegionHeld3
namespace Go.Proofs.Ytncjeleabpodaaa
open Go.RowKit Go.Shelf
def scCells (s : Sc) (sa : Option Addr) (sc : Nat) (ga : Option Addr) (gc : Nat) : Array Value := #[.int .i64 s.una, .int .i64 s.next, .int .i64 s.mark, .slice sa s.sk.length sc, .slice ga s.ag.length gc]
/-- Block B holds the scoreboard s, its lists from blocks lbs and lbg on. -/
def ScAtG (B lbs lbg : Nat) (s : Sc) (W : World) : Prop := (B < lbs ∧ B < lbg) ∧ (lbs ≤ W.heap.size ∧ lbg ≤ W.heap.size) ∧ ∃ sa sc ga gc, W.heap[B]? = some (.cells (scCells s sa sc ga gc) 94 (0, 0)) ∧ LstAt lbs s.sk sa sc W ∧ LstAt lbg s.ag ga gc W
def ScAt (B lb : Nat) (s : Sc) (W : World) : Prop := ScAtG B lb lb s W
theorem ScAtG.lt {B lbs lbg : Nat} {s : Sc} {W : World} (h : ScAtG B lbs lbg s W) : B < W.heap.size := Nat.lt_of_lt_of_le h.1.1 h.2.1.1
theorem ScAtG.below {B lbs lbg : Nat} {s : Sc} {W W' : World} (h : ScAtG B lbs lbg s W) (hb : Below W.heap.size W W') : ScAtG B lbs lbg s W' := by
  have hl := h.lt
  obtain ⟨h1, ⟨h2, h3⟩, sa, sc, ga, gc, hc, ls, lg⟩ := h
  exact ⟨h1, ⟨Nat.le_trans h2 hb.size, Nat.le_trans h3 hb.size⟩, sa, sc, ga, gc, (hb.block B hl).trans hc, ls.below hb, lg.below hb⟩
theorem ScAtG.other {B C lbs lbg : Nat} {s : Sc} {W W' : World} (h : ScAtG B lbs lbg s W) (hc : Chg C W W') (hne : B ≠ C) (hC : C < lbs) (hC2 : C < lbg) : ScAtG B lbs lbg s W' := by
  have hl := h.lt
  obtain ⟨h1, ⟨h2, h3⟩, sa, sc, ga, gc, hcs, ls, lg⟩ := h
  exact ⟨h1, ⟨Nat.le_trans h2 hc.size, Nat.le_trans h3 hc.size⟩, sa, sc, ga, gc, (hc.block B hl hne).trans hcs, ls.other hc hC, lg.other hc hC2⟩
/-- The five cells. -/
theorem ScAtG.ats {B lbs lbg : Nat} {s : Sc} {W : World} (h : ScAtG B lbs lbg s W) : ∃ sa sc ga gc, At B 0 (.int .i64 s.una) W ∧ At B 1 (.int .i64 s.next) W ∧ At B 2 (.int .i64 s.mark) W ∧ At B 3 (.slice sa s.sk.length sc) W ∧ At B 4 (.slice ga s.ag.length gc) W ∧ LstAt lbs s.sk sa sc W ∧ LstAt lbg s.ag ga gc W := by
  obtain ⟨h1, h2, sa, sc, ga, gc, hc, ls, lg⟩ := h
  have c : ∀ i v, (scCells s sa sc ga gc)[i]? = some v → At B i v W := fun i v hv => ⟨by rw [cell_of_row _ _ _ _ _ _ hc]; exact hv, frozen_of_row _ _ _ _ _ hc⟩
  exact ⟨sa, sc, ga, gc, c 0 _ rfl, c 1 _ rfl, c 2 _ rfl, c 3 _ rfl, c 4 _ rfl, ls, lg⟩
/-- A cell is stored. -/
theorem ScAtG.set {B lbs lbg : Nat} {s s' : Sc} {W : World} (h : ScAtG B lbs lbg s W) (i : Nat) (v : Value) (hk : s'.sk = s.sk) (hg : s'.ag = s.ag) (he : ∀ sa sc ga gc, (scCells s sa sc ga gc).setIfInBounds i v = scCells s' sa sc ga gc) : ScAtG B lbs lbg s' (W.setCell ⟨B, i, none⟩ v) := by
  obtain ⟨h1, h2, sa, sc, ga, gc, hc, ls, lg⟩ := h
  refine ⟨h1, by simp [World.setCell]; exact h2, sa, sc, ga, gc, ?_, by rw [hk]; exact ls.set h1.1 v, by rw [hg]; exact lg.set h1.2 v⟩
  rw [heap_setCell_same _ _ _ _ _ _ hc, he]
theorem ScAtG.setSk {B lbs lbs' lbg : Nat} {s : Sc} {W : World} (h : ScAtG B lbs lbg s W) (hB : B < lbs') (hs : lbs' ≤ W.heap.size) {L : List Sp} {a : Option Addr} {cap : Nat} (hl : LstAt lbs' L a cap W) : ScAtG B lbs' lbg { s with sk := L } (W.setCell ⟨B, 3, none⟩ (.slice a L.length cap)) := by
  obtain ⟨h1, h2, sa, sc, ga, gc, hc, ls, lg⟩ := h
  refine ⟨⟨hB, h1.2⟩, by simp [World.setCell]; exact ⟨hs, h2.2⟩, a, cap, ga, gc, ?_, hl.set hB _, lg.set h1.2 _⟩
  rw [heap_setCell_same _ _ _ _ _ _ hc]
  rfl
theorem ScAtG.setAg {B lbs lbg lbg' : Nat} {s : Sc} {W : World} (h : ScAtG B lbs lbg s W) (hB : B < lbg') (hs : lbg' ≤ W.heap.size) {L : List Sp} {a : Option Addr} {cap : Nat} (hl : LstAt lbg' L a cap W) : ScAtG B lbs lbg' { s with ag := L } (W.setCell ⟨B, 4, none⟩ (.slice a L.length cap)) := by
  obtain ⟨h1, h2, sa, sc, ga, gc, hc, ls, lg⟩ := h
  refine ⟨⟨h1.1, hB⟩, by simp [World.setCell]; exact ⟨h2.1, hs⟩, sa, sc, a, cap, ?_, ls.set h1.1 _, hl.set hB _⟩
  rw [heap_setCell_same _ _ _ _ _ _ hc]
  rfl
theorem ScAtG.mono {B lbs lbg lbs' lbg' : Nat} {s : Sc} {W : World} (h : ScAtG B lbs' lbg' s W) (h1 : lbs ≤ lbs') (h2 : lbg ≤ lbg') (hB : B < lbs) (hB2 : B < lbg) : ScAtG B lbs lbg s W := by
  obtain ⟨_, h4, sa, sc, ga, gc, hc, ls, lg⟩ := h
  exact ⟨⟨hB, hB2⟩, ⟨Nat.le_trans h1 h4.1, Nat.le_trans h2 h4.2⟩, sa, sc, ga, gc, hc, ls.mono h1, lg.mono h2⟩
theorem ScAt.lt {B lb : Nat} {s : Sc} {W : World} (h : ScAt B lb s W) : B < W.heap.size := ScAtG.lt h
theorem ScAt.below {B lb : Nat} {s : Sc} {W W' : World} (h : ScAt B lb s W) (hb : Below W.heap.size W W') : ScAt B lb s W' := ScAtG.below h hb
theorem ScAt.other {B C lb : Nat} {s : Sc} {W W' : World} (h : ScAt B lb s W) (hc : Chg C W W') (hne : B ≠ C) (hC : C < lb) : ScAt B lb s W' := ScAtG.other h hc hne hC hC
theorem ScAt.ats {B lb : Nat} {s : Sc} {W : World} (h : ScAt B lb s W) : ∃ sa sc ga gc, At B 0 (.int .i64 s.una) W ∧ At B 1 (.int .i64 s.next) W ∧ At B 2 (.int .i64 s.mark) W ∧ At B 3 (.slice sa s.sk.length sc) W ∧ At B 4 (.slice ga s.ag.length gc) W ∧ LstAt lb s.sk sa sc W ∧ LstAt lb s.ag ga gc W := ScAtG.ats h
theorem ScAt.set {B lb : Nat} {s s' : Sc} {W : World} (h : ScAt B lb s W) (i : Nat) (v : Value) (hk : s'.sk = s.sk) (hg : s'.ag = s.ag) (he : ∀ sa sc ga gc, (scCells s sa sc ga gc).setIfInBounds i v = scCells s' sa sc ga gc) : ScAt B lb s' (W.setCell ⟨B, i, none⟩ v) := ScAtG.set h i v hk hg he
theorem ScAt.setSk {B lb : Nat} {s : Sc} {W : World} (h : ScAt B lb s W) {L : List Sp} {a : Option Addr} {cap : Nat} (hl : LstAt lb L a cap W) : ScAt B lb { s with sk := L } (W.setCell ⟨B, 3, none⟩ (.slice a L.length cap)) := ScAtG.setSk h h.1.1 h.2.1.1 hl
theorem ScAt.setAg {B lb : Nat} {s : Sc} {W : World} (h : ScAt B lb s W) {L : List Sp} {a : Option Addr} {cap : Nat} (hl : LstAt lb L a cap W) : ScAt B lb { s with ag := L } (W.setCell ⟨B, 4, none⟩ (.slice a L.length cap)) := ScAtG.setAg h h.1.1 h.2.1.1 hl
theorem scnew_any (w : World) : Calls Try.prog 39 #[] w fun e w' => e = .returned (.pointer (some ⟨w.heap.size, 0, none⟩)) ∧ w' = w.alloc (.cells (scCells sc0 none 0 none 0) 94) := by
  go_enter Try.func39, Try.ntmps39
  go_wp2_with fail
  go_ret
  exact ⟨rfl, rfl⟩
theorem ScAt.new {w w' : World} {lb : Nat} (h : w' = w.alloc (.cells (scCells sc0 none 0 none 0) 94)) : w.heap.size < w'.heap.size ∧ ∀ W, Below w'.heap.size w' W → w.heap.size < lb → lb ≤ W.heap.size → ScAt w.heap.size lb sc0 W := by
  subst h
  refine ⟨by simp, fun W hb hlt hle => ⟨⟨hlt, hlt⟩, ⟨hle, hle⟩, none, 0, none, 0, (hb.block _ (by simp)).trans (heap_alloc_new _ _), LstAt.nil _ _, LstAt.nil _ _⟩⟩
set_option maxHeartbeats 1000000 in
theorem unless_Una (p : Addr) (caps : Array Value) (w : World) (R : Value → World → Prop) (h : Calls Try.prog 67 caps w fun e w' => ∃ v, e = .returned v ∧ R v w') :
    Calls Try.prog 66 #[.pointer (some p), .int .i64 0, .func (.func 67) #[] caps] w fun e w' => ∃ v, e = .returned v ∧ R v w' := by
  have HC := Lib.hid h
  clear h
  go_enter Try.func66, Try.ntmps66
  go_wp2_with fail
  refine (HC.out).mono ?_
  rintro e w1 ⟨v, rfl, hR⟩
  have HR := Lib.hid hR
  clear hR
  go_wp2_with fail
  go_ret
  exact ⟨v, rfl, HR.out⟩
set_option maxHeartbeats 1000000 in
theorem unless_Next (p : Addr) (caps : Array Value) (w : World) (R : Value → World → Prop) (h : Calls Try.prog 68 caps w fun e w' => ∃ v, e = .returned v ∧ R v w') :
    Calls Try.prog 66 #[.pointer (some p), .int .i64 0, .func (.func 68) #[] caps] w fun e w' => ∃ v, e = .returned v ∧ R v w' := by
  have HC := Lib.hid h
  clear h
  go_enter Try.func66, Try.ntmps66
  go_wp2_with fail
  refine (HC.out).mono ?_
  rintro e w1 ⟨v, rfl, hR⟩
  have HR := Lib.hid hR
  clear hR
  go_wp2_with fail
  go_ret
  exact ⟨v, rfl, HR.out⟩
set_option maxHeartbeats 1000000 in
theorem unless_Pipe (p : Addr) (caps : Array Value) (w : World) (R : Value → World → Prop) (h : Calls Try.prog 69 caps w fun e w' => ∃ v, e = .returned v ∧ R v w') :
    Calls Try.prog 66 #[.pointer (some p), .int .i64 0, .func (.func 69) #[] caps] w fun e w' => ∃ v, e = .returned v ∧ R v w' := by
  have HC := Lib.hid h
  clear h
  go_enter Try.func66, Try.ntmps66
  go_wp2_with fail
  refine (HC.out).mono ?_
  rintro e w1 ⟨v, rfl, hR⟩
  have HR := Lib.hid hR
  clear hR
  go_wp2_with fail
  go_ret
  exact ⟨v, rfl, HR.out⟩
set_option maxHeartbeats 1000000 in
theorem unless_Sacked (p : Addr) (caps : Array Value) (w : World) (R : Value → World → Prop) (h : Calls Try.prog 56 caps w fun e w' => ∃ v, e = .returned v ∧ R v w') :
    Calls Try.prog 55 #[.pointer (some p), .slice none 0 0, .func (.func 56) #[] caps] w fun e w' => ∃ v, e = .returned v ∧ R v w' := by
  have HC := Lib.hid h
  clear h
  go_enter Try.func55, Try.ntmps55
  go_wp2_with fail
  refine (HC.out).mono ?_
  rintro e w1 ⟨v, rfl, hR⟩
  have HR := Lib.hid hR
  clear hR
  go_wp2_with fail
  go_ret
  exact ⟨v, rfl, HR.out⟩
set_option maxHeartbeats 1000000 in
theorem unless_Lost (p : Addr) (caps : Array Value) (w : World) (R : Value → World → Prop) (h : Calls Try.prog 58 caps w fun e w' => ∃ v, e = .returned v ∧ R v w') :
    Calls Try.prog 55 #[.pointer (some p), .slice none 0 0, .func (.func 58) #[] caps] w fun e w' => ∃ v, e = .returned v ∧ R v w' := by
  have HC := Lib.hid h
  clear h
  go_enter Try.func55, Try.ntmps55
  go_wp2_with fail
  refine (HC.out).mono ?_
  rintro e w1 ⟨v, rfl, hR⟩
  have HR := Lib.hid hR
  clear hR
  go_wp2_with fail
  go_ret
  exact ⟨v, rfl, HR.out⟩
set_option maxHeartbeats 1000000 in
theorem unless_Sent (p : Addr) (caps : Array Value) (w : World) (R : Value → World → Prop) (h : Calls Try.prog 76 caps w fun e w' => ∃ v, e = .returned v ∧ R v w') :
    Calls Try.prog 70 #[.pointer (some p), .int .i64 1, .func (.func 76) #[] caps] w fun e w' => ∃ v, e = .returned v ∧ R v w' := by
  have HC := Lib.hid h
  clear h
  go_enter Try.func70, Try.ntmps70
  go_wp2_with fail
  refine (HC.out).mono ?_
  rintro e w1 ⟨v, rfl, hR⟩
  have HR := Lib.hid hR
  clear hR
  go_wp2_with fail
  go_ret
  exact ⟨v, rfl, HR.out⟩
set_option maxHeartbeats 1000000 in
theorem unless_Retransmitted (p : Addr) (caps : Array Value) (w : World) (R : Value → World → Prop) (h : Calls Try.prog 71 caps w fun e w' => ∃ v, e = .returned v ∧ R v w') :
    Calls Try.prog 70 #[.pointer (some p), .int .i64 1, .func (.func 71) #[] caps] w fun e w' => ∃ v, e = .returned v ∧ R v w' := by
  have HC := Lib.hid h
  clear h
  go_enter Try.func70, Try.ntmps70
  go_wp2_with fail
  refine (HC.out).mono ?_
  rintro e w1 ⟨v, rfl, hR⟩
  have HR := Lib.hid hR
  clear hR
  go_wp2_with fail
  go_ret
  exact ⟨v, rfl, HR.out⟩
theorem unless_sl_nil (fv : Value) (w : World) :
    Calls Try.prog 55 #[.pointer none, .slice none 0 0, fv] w fun e w' => e = .returned (.slice none 0 0) ∧ w = w' := by
  go_enter Try.func55, Try.ntmps55
  go_wp2_with fail
  go_ret
  exact ⟨rfl, rfl⟩
theorem unless_int_nil (fv : Value) (w : World) :
    Calls Try.prog 66 #[.pointer none, .int .i64 0, fv] w fun e w' => e = .returned (.int .i64 0) ∧ w = w' := by
  go_enter Try.func66, Try.ntmps66
  go_wp2_with fail
  go_ret
  exact ⟨rfl, rfl⟩
theorem unless_err_nil (fv : Value) (w : World) :
    Calls Try.prog 70 #[.pointer none, .int .i64 1, fv] w fun e w' => e = .returned (.int .i64 1) ∧ w = w' := by
  go_enter Try.func70, Try.ntmps70
  go_wp2_with fail
  go_ret
  exact ⟨rfl, rfl⟩
end Go.Proofs.Ytncjeleabpodaaa
