/- slices.SortFunc as Blocks calls it. -/
import Derived.Test.YtfeppkgcimgkeaaRbClone
import Derived.Test.YtfeppkgcimgkeaaSortLay
import Derived.Shelf.SlSortCmp.NoneTotal
namespace Go.Proofs.Ytfeppkgcimgkeaa
open Go.RowKit Go.Shelf Go.Sort
def encSp (x : Sp) : List Value := [.int .i64 x.1, .int .i64 x.2]
theorem isAggSp (w : World) : (isAgg 51).run Try.prog w = .ok true w := Try.isAgg51 w
theorem sizeSp (w : World) : (Go.sizeOf 51).run Try.prog w = .ok 2 w := Try.sizeOf51 w
/-- Below a block that the sort may write, nothing has changed. -/
theorem sort_below {N g off n : Nat} {w : World} {d : Array Sp} {os : Array Obj} (hg : N ≤ g) (hs : N ≤ w.heap.size) : RowKit.Below N w (sortWorldK encSp 2 w g off n d os) := by
  refine ⟨rfl, rfl, rfl, ?_, fun k hk => ?_⟩
  · unfold sortWorldK putRowK
    rw [size_grow, size_putRow]
    show _ ≤ w.heap.size + _
    omega
  · unfold sortWorldK putRowK
    rw [heap_grow_old _ _ (by rw [size_putRow]; show k < w.heap.size; omega)]
    unfold putRow mapBlock
    show (w.heap.modify g _)[k]? = _
    rw [Array.getElem?_modify, if_neg (by omega)]
theorem sort_cell {a : Addr} {g off n : Nat} {w : World} {d : Array Sp} {os : Array Obj} {v : Value} (h : w.cell? a = some v) (hne : a.block ≠ g) : (sortWorldK encSp 2 w g off n d os).cell? a = some v := by
  have hb := block_lt_of_cell h
  unfold sortWorldK
  rw [cell?_grow _ _ _ (by unfold putRowK; rw [size_putRow]; exact hb), cell?_putRowK_other _ _ _ _ _ _ _ hne]
  exact h
theorem sort_any (nw : Int) (g cap : Nat) (L : List Sp) (Fb X B : Nat) (w : World) (hc : canonB L = true) (hlen : L.length ≤ 1099511627776)
    (hH : HoldsK encSp 2 w g 0 L.toArray) (hg : g < w.heap.size)
    (hF : w.cell? ⟨Fb, 0, none⟩ = some (.func (.func 41) #[] #[.pointer (some ⟨X, 0, none⟩)])) (hX : w.cell? ⟨X, 0, none⟩ = some (.pointer (some ⟨B, 0, none⟩))) (hN : w.cell? ⟨B, 4, none⟩ = some (.int .i64 nw))
    (h1 : Fb ≠ g) (h2 : X ≠ g) (h3 : B ≠ g) :
    Calls Try.prog 43 #[.slice (some ⟨g, 0, none⟩) L.length cap, .func (.func 44) #[] #[.pointer (some ⟨Fb, 0, none⟩)]] w fun e w' =>
      e = .returned (.tuple #[]) ∧ SpAt w' w'.heap.size (some ⟨g, 0, none⟩) (orderL nw L) ∧ ∀ N, N ≤ g → N ≤ w.heap.size → RowKit.Below N w w' := by
  have eg : ∀ args w, (callFunc 44 args).run Try.prog w = .ok (.enter 44 args) w := enters_of Try.func44 (by kernel_rfl) rfl
  have hcmp : CmpLays Try.prog 44 #[.pointer (some ⟨Fb, 0, none⟩)] encSp 2 (cfB nw) g 0 L.toArray.size w := by
    intro m os dk hdk x y
    exact order_any _ Fb X B nw x y (sort_cell hF h1) (sort_cell hX h2) (sort_cell hN h3)
  have hcon := AnyQ.slices_SortFunc sortSp 2 isAggSp sizeSp encSp (fun _ => rfl) (fun x v hv => by simp [encSp] at hv; rcases hv with rfl | rfl <;> rfl) (cfB nw) (swoB nw) 44 #[.pointer (some ⟨Fb, 0, none⟩)] g 0 cap L.toArray w eg hcmp hH hg (by rw [List.size_toArray]; omega)
  refine Calls.mono (show Calls Try.prog 43 _ w _ from hcon) ?_
  rintro e w' ⟨he, d', n, os, hp, hs, rfl⟩
  have hd : d' = (orderL nw L).toArray := order_unique nw hc d' (by rw [List.size_toArray] at hp; exact hp) (by rw [List.size_toArray] at hs; exact hs)
  refine ⟨he, ⟨by rw [orderL_length]; exact hlen, fun hl => ⟨g, 0, rfl, ?_, fun i hi => ?_⟩⟩, fun N a b => sort_below a b⟩
  · have := (sort_below (N := 0) (g := g) (off := 0) (n := n) (w := w) (d := d') (os := os) (Nat.zero_le _) (Nat.zero_le _)).size
    omega
  · have hK : HoldsK encSp 2 (sortWorldK encSp 2 w g 0 n d' os) g 0 d' := by
      unfold sortWorldK
      refine holdsK_grow _ _ _ _ _ _ _ (by unfold putRowK; rw [size_putRow]; exact hg) (holdsK_putRowK _ _ _ _ _ _ _ (holdsK_ahead _ _ _ n _ _ _ hH) ?_)
      rw [hd, List.size_toArray, List.size_toArray, orderL_length]
    have hi' : i < d'.size := by rw [hd, List.size_toArray]; exact hi
    have e : d'[i]! = (orderL nw L)[i] := by rw [getElem!_pos d' i hi']; simp only [hd, List.getElem_toArray]
    have c0 := (HoldsK.cell hK hi' (c := 0) (by omega)).1
    have c1 := (HoldsK.cell hK hi' (c := 1) (by omega)).1
    rw [e] at c0 c1
    exact ⟨c0, c1⟩
theorem sort_none (a : Option Addr) (cap : Nat) (fv : Value) (w : World) :
    Calls Try.prog 43 #[.slice a 0 cap, fv] w fun e w' => e = .returned (.tuple #[]) ∧ w = w' := by
  refine Calls.mono (show Calls Try.prog 43 _ w _ from AnyF.slices_SortFunc_none sortSp a cap fv w) ?_
  rintro e w' ⟨he, hw⟩
  exact ⟨he, hw.symm⟩
/-- What the sort reads of a slice of one's own. -/
theorem OwnSp.holds {w : World} {base g cap : Nat} {L : List Sp} (h : OwnSp w base (.slice (some ⟨g, 0, none⟩) L.length cap) L) : HoldsK encSp 2 w g 0 L.toArray ∧ g < w.heap.size := by
  have hlt := (World.ownsRow.lt h g rfl).2
  refine ⟨?_, hlt⟩
  have hc := World.ownsRow.cells h (g := g) rfl
  have hf : ∀ j, w.frozen? ⟨g, j, none⟩ = false := by
    rcases h.2 with ⟨e, _⟩ | ⟨g', cap', cur, e, _, hg, _⟩
    · cases e
    · cases e
      intro j
      exact frozen_of_row _ _ _ _ _ hg
  intro j hj
  have hjl : j < L.length * 2 := by simpa using hj
  refine ⟨?_, hf _⟩
  have e1 : (flatV L)[j]? = some ((flatK encSp 2 L.toArray)[j]!) := by
    rw [get_flatK _ _ _ _ (by simpa using hjl)]
    have hi : j / 2 < L.length := by omega
    have e2 : L.toArray[j / 2]! = L[j / 2] := by rw [getElem!_pos L.toArray (j / 2) (by simpa using hi)]; simp
    rw [e2]
    obtain ⟨f1, f2⟩ := flatV_get L (j / 2) hi
    by_cases hp : j % 2 = 0
    · rw [show j / 2 * 2 = j by omega] at f1
      rw [f1, hp]
      rfl
    · rw [show j / 2 * 2 + 1 = j by omega] at f2
      rw [f2, show j % 2 = 1 by omega]
      rfl
  have := hc j _ e1
  rw [Addr.add_lit] at this
  exact this
end Go.Proofs.Ytfeppkgcimgkeaa
