/- append of spans in a region that draws its order. -/
import Derived.Test.YtncjeleabpodaaaRgClone
import Derived.Deep.RegionHeld3
namespace Go.Proofs.Ytncjeleabpodaaa
open Go.RowKit Go.Shelf
/-- out = append(out, x) in a region that draws its order. -/
theorem step_append_span {w : World} {ops : Array Oper} {o : Oper} {a : Act} {K : Act → World → Prop} {Q : Exit → Act → World → Prop} {E : Prop} (hgd : o.guard = none) (s x : Operand)
    (ho : o.op = .call { callee := .builtin .append, args := #[s, x], argTypes := #[29, 29] }) (base : Nat)
    (v : Value) (L : List Sp) (hs : a.eval s = v) (hown : OwnSp w base v L) (hL : L.length ≤ 4398046511104)
    (b : Nat) (y : Sp) (hx : a.eval x = .slice (some ⟨b, 0, none⟩) 1 1) (hc0 : w.cell? ⟨b, 0, none⟩ = some (.int .i64 y.1)) (hc1 : w.cell? ⟨b, 1, none⟩ = some (.int .i64 y.2)) (hbase : base ≤ w.heap.size)
    (h : ∀ v' w', OwnSp w' base v' (L ++ [y]) → w.grownBy w' v.ownBlock → (v'.ownBlock = v.ownBlock ∨ ∃ k, v'.ownBlock = some k ∧ w.heap.size ≤ k) → K (a.put o.dst v') w') :
    if Region.wanted o (yielded ops a.tmps) = true then Oper.wp Try.prog o a w K Q else E := by
  have hw : Region.wanted o (yielded ops a.tmps) = true := by simp [Region.wanted, hgd]
  rw [if_pos hw]
  obtain ⟨i0, hi, hz0, hz1, hz2⟩ := info_parts spanInfo
  obtain ⟨v', w', hr, h2, h3, h4⟩ := run_append_own2 (P := Try.prog) w base 29 o.type 51 i0 _ 2 16 Try.underlying29 hi hz0 hz1 hz2 rfl (by decide) v L.length (flatV L) hown ⟨b, 0, none⟩ 1 1 [.int .i64 y.1, .int .i64 y.2] rfl
    (by intro j u hj; match j, hj with
      | 0, hj => simp at hj; subst hj; exact hc0
      | 1, hj => simp at hj; subst hj; simpa [Addr.add] using hc1) (by intro u hu; simp at hu; rcases hu with rfl | rfl <;> rfl) (by unfold maxLen; omega) (by omega) hbase
  unfold Oper.wp execOp
  simp only [ho, resolve, invoke, builtin, Sem.run_bind, Sem.run_pure, Result.andThen_ok, List.map_toArray, List.map_cons, List.map_nil, hs, hx, hr]
  refine h v' w' ?_ h3 h4
  show w'.ownsRow _ _ _ _ _ _
  rw [List.length_append, flatV_append]
  exact h2
/-- out = append(out, xs...) in a region that draws its order. -/
theorem step_append_spans {w : World} {ops : Array Oper} {o : Oper} {a : Act} {K : Act → World → Prop} {Q : Exit → Act → World → Prop} {E : Prop} (hgd : o.guard = none) (s x : Operand)
    (ho : o.op = .call { callee := .builtin .append, args := #[s, x], argTypes := #[29, 29] }) (base : Nat)
    (v : Value) (L : List Sp) (hs : a.eval s = v) (hown : OwnSp w base v L) (hL : L.length ≤ 2199023255552)
    (b off c : Nat) (M : List Sp) (hx : a.eval x = .slice (some ⟨b, off, none⟩) M.length c) (hM : SpAt w w.heap.size (some ⟨b, off, none⟩) M) (hbase : base ≤ w.heap.size)
    (h : ∀ v' w', OwnSp w' base v' (L ++ M) → w.grownBy w' v.ownBlock → (v'.ownBlock = v.ownBlock ∨ ∃ k, v'.ownBlock = some k ∧ w.heap.size ≤ k) → K (a.put o.dst v') w') :
    if Region.wanted o (yielded ops a.tmps) = true then Oper.wp Try.prog o a w K Q else E := by
  have hw : Region.wanted o (yielded ops a.tmps) = true := by simp [Region.wanted, hgd]
  rw [if_pos hw]
  obtain ⟨i0, hi, hz0, hz1, hz2⟩ := info_parts spanInfo
  obtain ⟨v', w', hr, h2, h3, h4⟩ := run_append_own2 (P := Try.prog) w base 29 o.type 51 i0 _ 2 16 Try.underlying29 hi hz0 hz1 hz2 rfl (by decide) v L.length (flatV L) hown ⟨b, off, none⟩ M.length c (flatV M) (flatV_length M)
    (flatV_cells hM) (flatV_one M) (by have := hM.small; unfold maxLen; omega) (by have := hM.small; omega) hbase
  unfold Oper.wp execOp
  simp only [ho, resolve, invoke, builtin, Sem.run_bind, Sem.run_pure, Result.andThen_ok, List.map_toArray, List.map_cons, List.map_nil, hs, hx, hr]
  refine h v' w' ?_ h3 h4
  show w'.ownsRow _ _ _ _ _ _
  rw [List.length_append, flatV_append]
  exact h2
theorem run_append_zero {P : Program} (w : World) (t ty e : TypeId) (i : TypeInfo) (hi : P.info? e = some i) (ht : P.underlying t = some (.slice e)) (ad : Option Addr) (n cap : Nat) (hn : n ≤ cap) (ax : Option Addr) (c : Nat) :
    (Builtin.append_ #[t, t] ty #[.slice ad n cap, .slice ax 0 c]).run P w = .ok (.slice ad n cap) w := by
  cases ax with
  | none => cases ad <;> simp [Builtin.append_, run_underlying ht, Builtin.lenOf, hn, sizeOf, typeInfo, hi, run_firstCells_none, storeCells]
  | some x =>
    have hf := run_firstCells_some (P := P) w i.size 0 x 0 c [] (by simp) (by simp)
    cases ad <;> simp [Builtin.append_, run_underlying ht, Builtin.lenOf, hn, sizeOf, typeInfo, hi, hf, storeCells]
/-- out = append(out, none...) in a region that draws its order. -/
theorem step_append_zero {w : World} {ops : Array Oper} {o : Oper} {a : Act} {K : Act → World → Prop} {Q : Exit → Act → World → Prop} {E : Prop} (hgd : o.guard = none) (s x : Operand)
    (ho : o.op = .call { callee := .builtin .append, args := #[s, x], argTypes := #[29, 29] }) (base : Nat)
    (v : Value) (L : List Sp) (hs : a.eval s = v) (hown : OwnSp w base v L) (ax : Option Addr) (c : Nat) (hx : a.eval x = .slice ax 0 c)
    (h : K (a.put o.dst v) w) :
    if Region.wanted o (yielded ops a.tmps) = true then Oper.wp Try.prog o a w K Q else E := by
  have hw : Region.wanted o (yielded ops a.tmps) = true := by simp [Region.wanted, hgd]
  rw [if_pos hw]
  obtain ⟨ad, cap, rfl, hcap⟩ := hown.val
  obtain ⟨i0, hi, -, -, -⟩ := info_parts spanInfo
  have hr := run_append_zero (P := Try.prog) w 29 o.type 51 i0 hi Try.underlying29 ad L.length cap hcap ax c
  unfold Oper.wp execOp
  simp only [ho, resolve, invoke, builtin, Sem.run_bind, Sem.run_pure, Result.andThen_ok, List.map_toArray, List.map_cons, List.map_nil, hs, hx, hr]
  exact h
end Go.Proofs.Ytncjeleabpodaaa
