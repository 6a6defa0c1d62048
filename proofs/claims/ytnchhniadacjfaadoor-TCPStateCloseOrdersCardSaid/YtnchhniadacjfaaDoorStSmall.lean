/- The small functions of tcpstate, its reference and the law's own pick: what each returns. -/
import Derived.Test.YtnchhniadacjfaaDoorStStep
namespace Go.Proofs.YtnchhniadacjfaaDoor
open Go.RowKit
def nameL : List ByteArray := [⟨#[99, 108, 111, 115, 101, 100]⟩, ⟨#[115, 121, 110, 45, 115, 101, 110, 116]⟩, ⟨#[115, 121, 110, 45, 114, 99, 118, 100]⟩, ⟨#[101, 115, 116, 97, 98]⟩, ⟨#[102, 105, 110, 45, 119, 97, 105, 116, 45, 49]⟩, ⟨#[102, 105, 110, 45, 119, 97, 105, 116, 45, 50]⟩, ⟨#[99, 108, 111, 115, 101, 45, 119, 97, 105, 116]⟩, ⟨#[99, 108, 111, 115, 105, 110, 103]⟩, ⟨#[108, 97, 115, 116, 45, 97, 99, 107]⟩, ⟨#[116, 105, 109, 101, 45, 119, 97, 105, 116]⟩]
def nameCells : Array Value := (nameL.map Value.string).toArray
def nameB (s : Int) : ByteArray := if 0 ≤ s ∧ s < 10 then nameL.getD s.toNat ⟨#[]⟩ else ⟨#[]⟩
def Names (w : World) : Prop := ∃ t fr, w.heap[0]? = some (.cells nameCells t fr)
theorem Names.below {w w' : World} (h : Names w) (hb : Below w.heap.size w w') : Names w' := by
  obtain ⟨t, fr, ht⟩ := h
  exact ⟨t, fr, by rw [hb.block _ (Array.getElem?_eq_some_iff.1 ht).1]; exact ht⟩
theorem Triples.below {w w' : World} (h : Triples w) (hb : Below w.heap.size w w') : Triples w' := by
  obtain ⟨t, fr, ht⟩ := h
  exact ⟨t, fr, by rw [hb.block _ (Array.getElem?_eq_some_iff.1 ht).1]; exact ht⟩
theorem below_tr {w w1 w2 : World} (h : Below w.heap.size w w1) (k : Below w1.heap.size w1 w2) : Below w.heap.size w w2 := h.trans (k.mono h.size)
theorem nameL_len : nameL.length = 10 := rfl
theorem nameB_in (a : Nat) (h : a < 10) : nameCells[a]? = some (.string (nameB a)) := by
  unfold nameB nameCells
  rw [if_pos ⟨by omega, by omega⟩]
  have : a < nameL.length := by rw [nameL_len]; exact h
  simp [this]
theorem nameB_out (s : Int) (h : s < 0 ∨ 10 ≤ s) : nameB s = ⟨#[]⟩ := by unfold nameB; rw [if_neg (by omega)]
theorem ret1s {a b : ByteArray} (h : a = b) : Ending.returned (.string a) = .returned (.string b) := by rw [h]
set_option maxHeartbeats 400000 in
theorem string_any (s : Int) (w : World) (hN : Names w) :
    Calls Tryd.prog 18 #[.int .i64 s] w fun r w' => r = .returned (.string (nameB s)) ∧ w = w' := by
  by_cases c1 : s < 0
  · have H := Lib.hid (nameB_out s (.inl c1))
    go_enter Tryd.func18, Tryd.ntmps18
    go_wp2
    go_ret
    exact ⟨ret1s H.out.symm, rfl⟩
  · by_cases c2 : 10 ≤ s
    · have H := Lib.hid (nameB_out s (.inr c2))
      go_enter Tryd.func18, Tryd.ntmps18
      go_wp2
      go_ret
      exact ⟨ret1s H.out.symm, rfl⟩
    · obtain ⟨a, rfl⟩ := Int.eq_ofNat_of_zero_le (show 0 ≤ s by omega)
      obtain ⟨t, fr, ht⟩ := hN
      have hc : w.cell? ⟨0, a, none⟩ = some (.string (nameB a)) := by
        rw [cell_of_row _ _ _ _ _ _ ht]; exact nameB_in a (by omega)
      clear ht
      go_enter Tryd.func18, Tryd.ntmps18
      go_wp2
      go_ret
      exact ⟨rfl, rfl⟩
set_option maxHeartbeats 400000 in
theorem refString_any (s : Int) (w : World) :
    Calls Tryd.prog 19 #[.int .i64 s] w fun r w' => r = .returned (.string (nameB s)) ∧ Below w.heap.size w w' := by
  by_cases c1 : s < 0
  · have H := Lib.hid (nameB_out s (.inl c1))
    go_enter Tryd.func19, Tryd.ntmps19
    go_wp2
    go_ret
    exact ⟨ret1s H.out.symm, Below.refl _ _⟩
  · by_cases c2 : 9 < s
    · have H := Lib.hid (nameB_out s (.inr (by omega)))
      go_enter Tryd.func19, Tryd.ntmps19
      go_wp2
      go_ret
      exact ⟨ret1s H.out.symm, Below.refl _ _⟩
    · obtain ⟨a, rfl⟩ := Int.eq_ofNat_of_zero_le (show 0 ≤ s by omega)
      have hc : ∀ t, (w.alloc (.cells nameCells t)).cell? ⟨w.heap.size, a, none⟩ = some (.string (nameB a)) := by
        intro t; rw [cell_of_row _ _ _ _ _ _ (heap_alloc_new _ _)]; exact nameB_in a (by omega)
      simp only [nameCells, nameL, List.map] at hc
      go_enter Tryd.func19, Tryd.ntmps19
      go_wp2
      go_ret
      exact ⟨rfl, (Below.refl _ _).alloc (Nat.le_refl _) _⟩
end Go.Proofs.YtnchhniadacjfaaDoor
