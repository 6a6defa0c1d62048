/- Slices of integers that a call has made itself: append in a region that draws its order. -/
import Derived.Test.YtncjeleabpodaaaRgApp
namespace Go.Proofs.Ytncjeleabpodaaa
open Go.RowKit Go.Shelf
def flatI (L : List Int) : List Value := L.map fun n => .int .i64 n
theorem intInfo : (Try.prog.info? 3).map (fun i => (i.zero, i.size, i.bytes)) = some (some (.int .i64 0), 1, 8) := by kernel_rfl
/-- The slice v, made by the call itself (its blocks from base on), reads as L. -/
def OwnI (w : World) (base : Nat) (v : Value) (L : List Int) : Prop := w.ownsRow base 3 1 v L.length (flatI L)
theorem OwnI.nil (w : World) (base : Nat) : OwnI w base (.slice none 0 0) [] := World.ownsRow_nil _ _ _ _
theorem OwnI.alloc {w : World} {base : Nat} {v : Value} {L : List Int} (h : OwnI w base v L) (o : Obj) : OwnI (w.alloc o) base v L := World.ownsRow.alloc h o
theorem OwnI.kept {w w' : World} {base : Nat} {v : Value} {L : List Int} (h : OwnI w base v L) {row : Option Nat} (hg : w.grownBy w' row) (hne : v.ownBlock = none ∨ v.ownBlock ≠ row) : OwnI w' base v L := World.ownsRow.kept h hg hne
theorem OwnI.lt {w : World} {base : Nat} {v : Value} {L : List Int} (h : OwnI w base v L) : ∀ k, v.ownBlock = some k → base ≤ k ∧ k < w.heap.size := World.ownsRow.lt h
theorem OwnI.mono {w : World} {base base' : Nat} {v : Value} {L : List Int} (h : OwnI w base v L) (hb : base' ≤ base) : OwnI w base' v L := by
  refine ⟨h.1, ?_⟩
  rcases h.2 with h | ⟨g, cap, cur, hv, hbg, r⟩
  · exact .inl h
  · exact .inr ⟨g, cap, cur, hv, Nat.le_trans hb hbg, r⟩
theorem OwnI.bel {W W' : World} {base : Nat} {v : Value} {L : List Int} (h : OwnI W base v L) (hb : Below W.heap.size W W') : OwnI W' base v L := by
  refine h.kept (row := none) (grown_of_below hb) ?_
  cases v.ownBlock with
  | none => exact .inl rfl
  | some x => exact .inr (by simp)
theorem OwnI.chg {W W' : World} {base C : Nat} {v : Value} {L : List Int} (h : OwnI W base v L) (hc : Chg C W W') (hC : C < base) : OwnI W' base v L := by
  refine h.kept (row := some C) ⟨hc.os, hc.tape, hc.output, hc.size, fun k hk hne => hc.block k hk (fun e => hne (by rw [e]))⟩ ?_
  cases hv : v.ownBlock with
  | none => exact .inl rfl
  | some x => exact .inr (by have := (h.lt x hv).1; intro e; cases e; omega)
theorem OwnI.val {w : World} {base : Nat} {v : Value} {L : List Int} (h : OwnI w base v L) : ∃ a cap, v = .slice a L.length cap ∧ L.length ≤ cap := by
  rcases h.2 with ⟨rfl, hn⟩ | ⟨g, cap, cur, hv, hbg, hg, hnc, hcm, hcs, htake⟩
  · exact ⟨none, 0, by rw [hn], by omega⟩
  · exact ⟨_, cap, hv, hnc⟩
/-- What a list of one's own that is not empty reads as. -/
theorem OwnI.cells {w : World} {base : Nat} {v : Value} {L : List Int} (h : OwnI w base v L) (hp : 0 < L.length) :
    ∃ g cap, v = .slice (some ⟨g, 0, none⟩) L.length cap ∧ L.length ≤ cap ∧ cap ≤ maxLen ∧ base ≤ g ∧ g < w.heap.size ∧ ∀ i (hi : i < L.length), w.cell? ⟨g, i, none⟩ = some (.int .i64 L[i]) := by
  rcases h.2 with ⟨rfl, hn⟩ | ⟨g, cap, cur, hv, hbg, hg, hnc, hcm, hcs, htake⟩
  · omega
  · have hc := World.ownsRow.cells h (g := g) (by rw [hv]; rfl)
    refine ⟨g, cap, hv, hnc, hcm, hbg, (Array.getElem?_eq_some_iff.1 hg).1, fun i hi => ?_⟩
    have := hc i (.int .i64 L[i]) (by simp [flatI, hi])
    rw [Addr.add_lit] at this
    simpa using this
theorem OwnI.lit {w : World} {base : Nat} (L : List Int) (hb : base ≤ w.heap.size) (hs : L.length ≤ maxLen) : OwnI (w.alloc (.cells (flatI L).toArray 3)) base (.slice (some ⟨w.heap.size, 0, none⟩) L.length L.length) L :=
  ⟨by simp [flatI], .inr ⟨w.heap.size, L.length, (flatI L).toArray, rfl, hb, heap_alloc_new _ _, Nat.le_refl _, hs, by simp [flatI], by simp [flatI, List.take_of_length_le]⟩⟩
/-- out = append(out, xs...) in a region that draws its order. -/
theorem step_append_ints {w : World} {ops : Array Oper} {o : Oper} {a : Act} {K : Act → World → Prop} {Q : Exit → Act → World → Prop} {E : Prop} (hgd : o.guard = none) (s x : Operand)
    (ho : o.op = .call { callee := .builtin .append, args := #[s, x], argTypes := #[63, 63] }) (base : Nat)
    (v : Value) (L : List Int) (hs : a.eval s = v) (hown : OwnI w base v L) (hL : L.length ≤ 2199023255552)
    (b off c : Nat) (M : List Int) (hx : a.eval x = .slice (some ⟨b, off, none⟩) M.length c) (hM : ∀ i (hi : i < M.length), w.cell? ⟨b, off + i, none⟩ = some (.int .i64 M[i])) (hMs : M.length ≤ 2199023255552) (hbase : base ≤ w.heap.size)
    (h : ∀ v' w', OwnI w' base v' (L ++ M) → w.grownBy w' v.ownBlock → (v'.ownBlock = v.ownBlock ∨ ∃ k, v'.ownBlock = some k ∧ w.heap.size ≤ k) → K (a.put o.dst v') w') :
    if Region.wanted o (yielded ops a.tmps) = true then Oper.wp Try.prog o a w K Q else E := by
  have hw : Region.wanted o (yielded ops a.tmps) = true := by simp [Region.wanted, hgd]
  rw [if_pos hw]
  obtain ⟨i0, hi, hz0, hz1, hz2⟩ := info_parts intInfo
  obtain ⟨v', w', hr, h2, h3, h4⟩ := run_append_own2 (P := Try.prog) w base 63 o.type 3 i0 _ 1 8 Try.underlying63 hi hz0 hz1 hz2 rfl (by decide) v L.length (flatI L) hown ⟨b, off, none⟩ M.length c (flatI M) (by simp [flatI])
    (by
      intro j u hj
      have hjl : j < M.length := by have := (List.getElem?_eq_some_iff.1 hj).1; simpa [flatI] using this
      have hu : u = .int .i64 M[j] := by simp [flatI, hjl] at hj; exact hj.symm
      rw [Addr.add_lit, hu]
      exact hM j hjl)
    (by intro u hu; obtain ⟨n, -, rfl⟩ := List.mem_map.1 hu; rfl) (by unfold maxLen; omega) (by omega) hbase
  unfold Oper.wp execOp
  simp only [ho, resolve, invoke, builtin, Sem.run_bind, Sem.run_pure, Result.andThen_ok, List.map_toArray, List.map_cons, List.map_nil, hs, hx, hr]
  refine h v' w' ?_ h3 h4
  show w'.ownsRow _ _ _ _ _ _
  rw [List.length_append, show flatI (L ++ M) = flatI L ++ flatI M from List.map_append]
  exact h2
/-- out = append(out, none...) in a region that draws its order. -/
theorem step_append_ints0 {w : World} {ops : Array Oper} {o : Oper} {a : Act} {K : Act → World → Prop} {Q : Exit → Act → World → Prop} {E : Prop} (hgd : o.guard = none) (s x : Operand)
    (ho : o.op = .call { callee := .builtin .append, args := #[s, x], argTypes := #[63, 63] }) (base : Nat)
    (v : Value) (L : List Int) (hs : a.eval s = v) (hown : OwnI w base v L) (ax : Option Addr) (c : Nat) (hx : a.eval x = .slice ax 0 c)
    (h : K (a.put o.dst v) w) :
    if Region.wanted o (yielded ops a.tmps) = true then Oper.wp Try.prog o a w K Q else E := by
  have hw : Region.wanted o (yielded ops a.tmps) = true := by simp [Region.wanted, hgd]
  rw [if_pos hw]
  obtain ⟨ad, cap, rfl, hcap⟩ := hown.val
  obtain ⟨i0, hi, -, -, -⟩ := info_parts intInfo
  have hr := run_append_zero (P := Try.prog) w 63 o.type 3 i0 hi Try.underlying63 ad L.length cap hcap ax c
  unfold Oper.wp execOp
  simp only [ho, resolve, invoke, builtin, Sem.run_bind, Sem.run_pure, Result.andThen_ok, List.map_toArray, List.map_cons, List.map_nil, hs, hx, hr]
  exact h
end Go.Proofs.Ytncjeleabpodaaa
