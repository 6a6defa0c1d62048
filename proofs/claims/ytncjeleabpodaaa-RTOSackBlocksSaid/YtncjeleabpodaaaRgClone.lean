/- append of a whole slice of spans; slices.Clone at slices of spans. -/
import Derived.Test.YtncjeleabpodaaaRgKit
import Derived.WalkSpells
import Derived.Outline
namespace Go.Proofs.Ytncjeleabpodaaa
open Go.RowKit Go.Shelf
theorem flatV_cells {w : World} {n b off : Nat} {M : List Sp} (h : SpAt w n (some ⟨b, off, none⟩) M) : ∀ j u, (flatV M)[j]? = some u → w.cell? ((⟨b, off, none⟩ : Addr).add j) = some u := by
  intro j u hj
  have hl : j < (flatV M).length := (List.getElem?_eq_some_iff.1 hj).1
  rw [flatV_length] at hl
  obtain ⟨b', off', e, _, hc⟩ := h.cells (by omega)
  cases e
  have hi : j / 2 < M.length := by omega
  obtain ⟨f1, f2⟩ := flatV_get M (j / 2) hi
  obtain ⟨c1, c2⟩ := hc (j / 2) hi
  rw [Addr.add_lit]
  by_cases hp : j % 2 = 0
  · rw [show j / 2 * 2 = j by omega] at f1 c1
    rw [f1] at hj
    cases hj
    exact c1
  · rw [show j / 2 * 2 + 1 = j by omega] at f2
    rw [Nat.add_assoc, show j / 2 * 2 + 1 = j by omega] at c2
    rw [f2] at hj
    cases hj
    exact c2
/-- append(out, xs...): spans. -/
theorem wpList_append_spans (w : World) {ops : Array Oper} {rest : List Oper} {o : Oper} {a : Act} {Q : Exit → Act → World → Prop} (hgd : o.guard = none) (s x : Operand)
    (ho : o.op = .call { callee := .builtin .append, args := #[s, x], argTypes := #[29, 29] }) (base : Nat)
    (v : Value) (L : List Sp) (hs : a.eval s = v) (hown : OwnSp w base v L)
    (b off c : Nat) (M : List Sp) (hx : a.eval x = .slice (some ⟨b, off, none⟩) M.length c) (hM : SpAt w w.heap.size (some ⟨b, off, none⟩) M) (hL : L.length + M.length ≤ 4398046511104) (hbase : base ≤ w.heap.size)
    (h : ∀ v' w', OwnSp w' base v' (L ++ M) → w.grownBy w' v.ownBlock → (v'.ownBlock = v.ownBlock ∨ ∃ k, v'.ownBlock = some k ∧ w.heap.size ≤ k) → wpList Try.prog ops Q rest (a.put o.dst v') w') : wpList Try.prog ops Q (o :: rest) a w := by
  obtain ⟨i0, hi, hz0, hz1, hz2⟩ := info_parts spanInfo
  obtain ⟨v', w', hr, h2, h3, h4⟩ := run_append_own2 (P := Try.prog) w base 29 o.type 51 i0 _ 2 16 Try.underlying29 hi hz0 hz1 hz2 rfl (by decide) v L.length (flatV L) hown ⟨b, off, none⟩ M.length c (flatV M) (flatV_length M)
    (flatV_cells hM) (flatV_one M) (by unfold maxLen; omega) (by omega) hbase
  refine wpList_plain hgd fun K hK => ?_
  unfold Oper.wp execOp
  simp only [ho, resolve, invoke, builtin, Sem.run_bind, Sem.run_pure, Result.andThen_ok, List.map_toArray, List.map_cons, List.map_nil, hs, hx, hr]
  refine hK _ _ (h v' w' ?_ h3 h4)
  show w'.ownsRow _ _ _ _ _ _
  rw [List.length_append, flatV_append]
  exact h2
theorem own_empty (w : World) : OwnSp (w.alloc (.cells #[] 51)) w.heap.size (.slice (some ⟨w.heap.size, 0, none⟩) 0 0) [] := by
  refine ⟨rfl, .inr ⟨w.heap.size, 0, #[], rfl, Nat.le_refl _, heap_alloc_new _ _, Nat.le_refl _, ?_, ?_, rfl⟩⟩
  · unfold maxLen; omega
  · rfl
theorem clone_nil (c : Nat) (w : World) :
    Calls Try.prog 57 #[.slice none 0 c] w fun e w' => e = .returned (.slice none 0 0) ∧ w = w' := by
  have kn := fun (w : World) (a : Option Addr) (n c : Nat) => Lib.run_eql_slice_nil (P := Try.prog) w 29 51 a n c 0 0 Try.underlying29
  go_enter Try.func57, Try.ntmps57
  go_wp2_with fail
  go_ret
  exact ⟨rfl, rfl⟩
theorem clone_some (b off : Nat) (c : Nat) (L : List Sp) (w : World) (h : SpAt w w.heap.size (some ⟨b, off, none⟩) L) :
    Calls Try.prog 57 #[.slice (some ⟨b, off, none⟩) L.length c] w fun e w' => ∃ v, e = .returned v ∧ OwnSp w' w.heap.size v L ∧ Below w.heap.size w w' := by
  have kn := fun (w : World) (a : Option Addr) (n c : Nat) => Lib.run_eql_slice_nil (P := Try.prog) w 29 51 a n c 0 0 Try.underlying29
  go_enter Try.func57, Try.ntmps57
  have HS := Lib.hid h
  have hsm := h.small
  clear h
  go_wp2_with (at_builtin; refine wpList_append_spans _ rfl _ _ rfl w.heap.size _ [] rfl (own_empty w) b off c L rfl (by exact (HS.out.below ((Below.refl _ w).alloc (Nat.le_refl _) _)).mono (by simp)) (by simp; omega) (by simp) ?_)
  intro v' w1 hown hg hb
  have HO := Lib.hid hown
  have HB : Hid (Below w.heap.size w w1) := Lib.hid (((Below.refl _ w).alloc (Nat.le_refl _) _).trans (grown_below hg (by simp) (fun k e => by cases e; exact Nat.le_refl _)))
  clear hown hg hb
  go_wp2_with fail
  go_ret
  exact ⟨v', rfl, HO.out, HB.out⟩
end Go.Proofs.Ytncjeleabpodaaa
