/- merged's sort; slices.Clone. -/
import Derived.Test.YtncjeleabpodaaaRgKit
import Derived.Test.YtncjeleabpodaaaScPlain
import Derived.Test.YtncjeleabpodaaaRgClone
import Derived.Test.YtncjeleabpodaaaSortLay
import Derived.Sort.Grow
import Derived.Sort.Lot0
import Derived.Shelf.SlSortCmp.Insertion
import Derived.Shelf.SlSortCmp.NoneTotal
import Derived.WalkSpells
import Derived.Outline
namespace Go.Proofs.Ytncjeleabpodaaa
open Go.RowKit Go.Shelf Go.Sort
def cmpI (a b : Int) : Int := if a < b then -1 else if b < a then 1 else 0
theorem cmp_any (a b : Int) (W : World) : Calls Try.prog 101 #[.int .i64 a, .int .i64 b] W fun e w' => e = .returned (.int .i64 (cmpI a b)) ∧ w' = W := by
  by_cases h1 : a < b
  · have HC := Lib.hid (show cmpI a b = -1 by unfold cmpI; rw [if_pos h1])
    rw [HC.out]
    go_enter Try.func101, Try.ntmps101
    go_wp2
    go_ret
    exact ⟨rfl, rfl⟩
  · by_cases h2 : b < a
    · have HC := Lib.hid (show cmpI a b = 1 by unfold cmpI; rw [if_neg h1, if_pos h2])
      rw [HC.out]
      go_enter Try.func101, Try.ntmps101
      go_wp2
      go_ret
      exact ⟨rfl, rfl⟩
    · have HC := Lib.hid (show cmpI a b = 0 by unfold cmpI; rw [if_neg h1, if_neg h2])
      rw [HC.out]
      go_enter Try.func101, Try.ntmps101
      go_wp2
      go_ret
      exact ⟨rfl, rfl⟩
/-- w' is w, some draws on, with new blocks. -/
def Grew (w w' : World) : Prop := ∃ q os, w' = Sort.grow (w.drewN q) os
theorem Grew.refl (w : World) : Grew w w := ⟨0, #[], by rw [Sort.grow_empty]; rfl⟩
theorem Grew.alloc {w w' : World} (h : Grew w w') (o : Obj) : Grew w (w'.alloc o) := by
  obtain ⟨q, os, rfl⟩ := h
  exact ⟨q, os ++ #[o], by rw [Sort.alloc_eq_grow, Sort.grow_grow]⟩
theorem Grew.drew {w w' : World} (h : Grew w w') : Grew w w'.drew := by
  obtain ⟨q, os, rfl⟩ := h
  exact ⟨q + 1, os, rfl⟩
def encSp (x : Sp) : List Value := [.int .i64 x.1, .int .i64 x.2]
theorem isAggSp (w : World) : (isAgg 51).run Try.prog w = .ok true w := Try.isAgg51 w
theorem sizeSp (w : World) : (Go.sizeOf 51).run Try.prog w = .ok 2 w := Try.sizeOf51 w
/-- Below a block that the sort may write, nothing has changed. -/
theorem sort_below {N g off n : Nat} {w : World} {d : Array Sp} {os : Array Obj} (hg : N ≤ g) (hs : N ≤ w.heap.size) : RowKit.Below N w (sortWorldK encSp 2 w g off n d os) := by
  refine ⟨rfl, rfl, rfl, ?_, fun k hk => ?_⟩
  · unfold sortWorldK putRowK
    rw [size_grow, size_putRow]
    show _ ≤ w.heap.size + _
    omega
  · unfold sortWorldK putRowK
    rw [heap_grow_old _ _ (by rw [size_putRow]; show k < w.heap.size; omega)]
    unfold putRow mapBlock
    show (w.heap.modify g _)[k]? = _
    rw [Array.getElem?_modify, if_neg (by omega)]
theorem sort_cell {a : Addr} {g off n : Nat} {w : World} {d : Array Sp} {os : Array Obj} {v : Value} (h : w.cell? a = some v) (hne : a.block ≠ g) : (sortWorldK encSp 2 w g off n d os).cell? a = some v := by
  have hb := block_lt_of_cell h
  unfold sortWorldK
  rw [cell?_grow _ _ _ (by unfold putRowK; rw [size_putRow]; exact hb), cell?_putRowK_other _ _ _ _ _ _ _ hne]
  exact h
theorem sort_none (a : Option Addr) (cap : Nat) (fv : Value) (w : World) :
    Calls Try.prog 99 #[.slice a 0 cap, fv] w fun e w' => e = .returned (.tuple #[]) ∧ w = w' := by
  refine Calls.mono (show Calls Try.prog 99 _ w _ from AnyF.slices_SortFunc_none sortSp a cap fv w) ?_
  rintro e w' ⟨he, hw⟩
  exact ⟨he, hw.symm⟩
/-- What the sort reads of a slice of one's own. -/
theorem OwnSp.holds {w : World} {base g cap : Nat} {L : List Sp} (h : OwnSp w base (.slice (some ⟨g, 0, none⟩) L.length cap) L) : HoldsK encSp 2 w g 0 L.toArray ∧ g < w.heap.size := by
  have hlt := (World.ownsRow.lt h g rfl).2
  refine ⟨?_, hlt⟩
  have hc := World.ownsRow.cells h (g := g) rfl
  have hf : ∀ j, w.frozen? ⟨g, j, none⟩ = false := by
    rcases h.2 with ⟨e, _⟩ | ⟨g', cap', cur, e, _, hg, _⟩
    · cases e
    · cases e
      intro j
      exact frozen_of_row _ _ _ _ _ hg
  intro j hj
  have hjl : j < L.length * 2 := by simpa using hj
  refine ⟨?_, hf _⟩
  have e1 : (flatV L)[j]? = some ((flatK encSp 2 L.toArray)[j]!) := by
    rw [get_flatK _ _ _ _ (by simpa using hjl)]
    have hi : j / 2 < L.length := by omega
    have e2 : L.toArray[j / 2]! = L[j / 2] := by rw [getElem!_pos L.toArray (j / 2) (by simpa using hi)]; simp
    rw [e2]
    obtain ⟨f1, f2⟩ := flatV_get L (j / 2) hi
    by_cases hp : j % 2 = 0
    · rw [show j / 2 * 2 = j by omega] at f1
      rw [f1, hp]
      rfl
    · rw [show j / 2 * 2 + 1 = j by omega] at f2
      rw [f2, show j % 2 = 1 by omega]
      rfl
  have := hc j _ e1
  rw [Addr.add_lit] at this
  exact this
/-- The order of merged: by the start. -/
def cfF (x y : Sp) : Int := cmpI x.1 y.1
theorem ltF_iff (x y : Sp) : ltOf cfF x y = true ↔ x.1 < y.1 := by
  unfold ltOf
  rw [decide_eq_true_iff]
  unfold cfF cmpI
  (repeat' split) <;> omega
theorem swoF : SWO (ltOf cfF) where
  irrefl x := by rw [← Bool.not_eq_true, ltF_iff]; omega
  trans x y z h1 h2 := by rw [ltF_iff] at *; omega
  ntrans x y z h1 h2 := by rw [← Bool.not_eq_true, ltF_iff] at *; omega
theorem order_any (W : World) (x y : Sp) :
    Calls Try.prog 100 #[.agg #[.int .i64 x.1, .int .i64 x.2], .agg #[.int .i64 y.1, .int .i64 y.2]] W fun e w' => e = .returned (.int .i64 (cfF x y)) ∧ Grew W w' := by
  obtain ⟨x1, x2⟩ := x
  obtain ⟨y1, y2⟩ := y
  have HG := Lib.hid (((Grew.refl W).alloc (.cells #[.int .i64 x1, .int .i64 x2] 51)).alloc (.cells #[.int .i64 y1, .int .i64 y2] 51))
  go_enter Try.func100, Try.ntmps100
  go_wp2_with fail
  refine (cmp_any x1 y1 _).mono ?_
  rintro e w' ⟨rfl, rfl⟩
  go_wp2_with fail
  go_ret
  exact ⟨rfl, HG.out⟩
theorem sortF_any (g cap base : Nat) (L : List Sp) (w : World) (hlen : L.length ≤ 1099511627776) (hown : OwnSp w base (.slice (some ⟨g, 0, none⟩) L.length cap) L) :
    Calls Try.prog 99 #[.slice (some ⟨g, 0, none⟩) L.length cap, .func (.func 100) #[] #[]] w fun e w' =>
      e = .returned (.tuple #[]) ∧ ∃ D, D.Perm L ∧ D.Pairwise (fun x y => x.1 ≤ y.1) ∧ SpAt w' w'.heap.size (some ⟨g, 0, none⟩) D ∧ ∀ N, N ≤ g → N ≤ w.heap.size → RowKit.Below N w w' := by
  obtain ⟨hH, hg⟩ := hown.holds
  have eg : ∀ args w, (callFunc 100 args).run Try.prog w = .ok (.enter 100 args) w := enters_of Try.func100 (by kernel_rfl) rfl
  have hcmp : CmpLays Try.prog 100 #[] encSp 2 cfF g 0 L.toArray.size w := by
    intro m os dk hdk x y
    exact order_any _ x y
  have hcon := AnyQ.slices_SortFunc sortSp 2 isAggSp sizeSp encSp (fun _ => rfl) (fun x v hv => by simp [encSp] at hv; rcases hv with rfl | rfl <;> rfl) cfF swoF 100 #[] g 0 cap L.toArray w eg hcmp hH hg (by rw [List.size_toArray]; omega)
  refine Calls.mono (show Calls Try.prog 99 _ w _ from hcon) ?_
  rintro e w' ⟨he, d', n, os, hp, hs, rfl⟩
  obtain ⟨p1, p2, p3⟩ := hp
  rw [List.size_toArray] at p2 p3 hs
  have p1 : d'.size = L.length := by rw [p1, List.size_toArray]
  have e1 : d'.extract 0 L.length = d' := by rw [← p1]; simp
  have e2 : L.toArray.extract 0 L.length = L.toArray := by rw [← List.size_toArray]; simp
  rw [e1, e2] at p3
  have hperm : d'.toList.Perm L := p3
  refine ⟨he, d'.toList, hperm, ?_, ⟨by rw [hperm.length_eq]; exact hlen, fun hl => ⟨g, 0, rfl, ?_, fun i hi => ?_⟩⟩, fun N a b => sort_below a b⟩
  · rw [List.pairwise_iff_getElem]
    intro i j hi hj hij
    have hi' : i < d'.size := by simpa using hi
    have hj' : j < d'.size := by simpa using hj
    have := hs i j (Nat.zero_le _) hij (by omega)
    rw [getElem!_pos d' i hi', getElem!_pos d' j hj', ← Bool.not_eq_true, ltF_iff] at this
    rw [Array.getElem_toList, Array.getElem_toList]
    omega
  · have := (sort_below (N := 0) (g := g) (off := 0) (n := n) (w := w) (d := d') (os := os) (Nat.zero_le _) (Nat.zero_le _)).size
    omega
  · have hK : HoldsK encSp 2 (sortWorldK encSp 2 w g 0 n d' os) g 0 d' := by
      unfold sortWorldK
      refine holdsK_grow _ _ _ _ _ _ _ (by unfold putRowK; rw [size_putRow]; exact hg) (holdsK_putRowK _ _ _ _ _ _ _ (holdsK_ahead _ _ _ n _ _ _ hH) ?_)
      show d'.size = L.toArray.size
      rw [p1, List.size_toArray]
    have hi' : i < d'.size := by simpa using hi
    have e : d'[i]! = d'.toList[i] := by rw [getElem!_pos d' i hi', Array.getElem_toList]
    have c0 := (HoldsK.cell hK hi' (c := 0) (by omega)).1
    have c1 := (HoldsK.cell hK hi' (c := 1) (by omega)).1
    rw [e] at c0 c1
    exact ⟨c0, c1⟩
end Go.Proofs.Ytncjeleabpodaaa
