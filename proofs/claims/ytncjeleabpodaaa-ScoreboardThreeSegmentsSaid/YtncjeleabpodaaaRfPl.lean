/- The reference's lists: plain facts. -/
import Derived.Test.YtncjeleabpodaaaRfVal
import Derived.Test.YtncjeleabpodaaaRgCount
import Derived.Test.YtncjeleabpodaaaWi
import Derived.Test.YtncjeleabpodaaaScLaw2
import Derived.Deep.QuietTactic
import Derived.BigQuiet
namespace Go.Proofs.Ytncjeleabpodaaa
open Go.RowKit Go.Shelf
theorem nqBel0 {N : Nat} (w : World) (n : Nat) (_h : N ≤ w.heap.size) : Below N w (w.drewN n) :=
  have h := Below.refl N w
  ⟨h.os, h.tape, h.output, h.size, h.block⟩
theorem takesB_one (L : List Sp) (s : Sp) : takesB L s = (canonB L && okB s) := by
  unfold takesB
  cases h : okB s with
  | true => rw [canonB_one.2 (okB_iff.1 h)]
  | false =>
    have : canonB [s] = false := by
      cases h2 : canonB [s] with
      | false => rfl
      | true => rw [okB_iff.2 (canonB_one.1 h2)] at h; cases h
    rw [this]
/-- x in block Y beside the span s in block X and the list out. -/
structure RX (N X Y : Nat) (s1 s2 x1 x2 : Int) (w : World) (v : Value) (out : List Sp) (W : World) : Prop where
  wi : WI N X s1 s2 w v out W
  x0 : At Y 0 (.int .i64 x1) W
  x1 : At Y 1 (.int .i64 x2) W
  ne : v.ownBlock ≠ some Y
theorem RX.cells {N X Y : Nat} {s1 s2 x1 x2 : Int} {w : World} {v : Value} {out : List Sp} {W : World} (h : RX N X Y s1 s2 x1 x2 w v out W) : W.cell? ⟨X, 0, none⟩ = some (.int .i64 s1) ∧ W.cell? ⟨X, 1, none⟩ = some (.int .i64 s2) ∧ W.cell? ⟨Y, 0, none⟩ = some (.int .i64 x1) ∧ W.cell? ⟨Y, 1, none⟩ = some (.int .i64 x2) := ⟨h.wi.x0.1, h.wi.x1.1, h.x0.1, h.x1.1⟩
theorem RX.alloc {N X Y : Nat} {s1 s2 x1 x2 : Int} {w : World} {v : Value} {out : List Sp} {W : World} (h : RX N X Y s1 s2 x1 x2 w v out W) (hN : N ≤ W.heap.size) (o : Obj) : RX N X Y s1 s2 x1 x2 w v out (W.alloc o) :=
  ⟨h.wi.alloc hN o, h.x0.alloc _, h.x1.alloc _, h.ne⟩
theorem RX.app {N X Y : Nat} {s1 s2 x1 x2 : Int} {w : World} {v v' : Value} {out out' : List Sp} {W W' : World} (h : RX N X Y s1 s2 x1 x2 w v out W) (hN : N ≤ w.heap.size) (ho : OwnSp W' N v' out') (hg : W.grownBy W' v.ownBlock) (hb : v'.ownBlock = v.ownBlock ∨ ∃ k, v'.ownBlock = some k ∧ W.heap.size ≤ k) : RX N X Y s1 s2 x1 x2 w v' out' W' := by
  refine ⟨h.wi.app hN ho hg hb, h.x0.grown hg h.ne, h.x1.grown hg h.ne, ?_⟩
  rcases hb with e | ⟨k, e, hk⟩
  · rw [e]; exact h.ne
  · rw [e]; intro e2; cases e2; have := h.x0.lt; omega
theorem one_yes {a b : Int} (h : a < b) : one a b = [(a, b)] := by unfold one; rw [if_pos h]
theorem one_no {a b : Int} (h : ¬ a < b) : one a b = [] := by unfold one; rw [if_neg h]
theorem one_le2 (a b : Int) : (one a b).length ≤ 1 := by unfold one; split <;> simp
theorem remF_snoc (s : Sp) (L : List Sp) (x : Sp) : remF s (L ++ [x]) = remF s L ++ (one x.1 (min x.2 s.1) ++ one (max x.1 s.2) x.2) := by
  induction L with
  | nil => show one _ _ ++ one _ _ ++ [] = [] ++ _; simp
  | cons y l ih => show one _ _ ++ one _ _ ++ remF s (l ++ [x]) = one _ _ ++ one _ _ ++ remF s l ++ _; rw [ih, List.append_assoc, List.append_assoc, List.append_assoc]
theorem remF_len (s : Sp) (L : List Sp) : (remF s L).length ≤ 2 * L.length := by
  induction L with
  | nil => simp [remF]
  | cons y l ih =>
    show (one _ _ ++ one _ _ ++ remF s l).length ≤ _
    have h1 := one_le2 y.1 (min y.2 s.1)
    have h2 := one_le2 (max y.1 s.2) y.2
    rw [List.length_append, List.length_append, List.length_cons]
    omega
theorem remL_canon (L : List Sp) (s : Sp) : canonB (remL L s) = true := by
  unfold remL
  split
  · rename_i h
    have h2 := takesB_iff.1 h
    exact (remF_spec h2.1 h2.2.2.1).1
  · rfl
theorem rem_spec {L O : List Sp} (hL : ∀ y ∈ L, okS y) (hO : canonB O = true) : canonB (L.foldl remL O) = true ∧ ∀ i, Mem i (L.foldl remL O) ↔ Mem i O ∧ ¬ Mem i L := by
  induction L generalizing O with
  | nil => exact ⟨hO, fun i => ⟨fun h => ⟨h, mem_nil⟩, fun h => h.1⟩⟩
  | cons y l ih =>
    have hy := hL y List.mem_cons_self
    have ht : takesB O y = true := takesB_iff.2 ⟨hO, hy⟩
    obtain ⟨c1, c2⟩ := remF_spec (s := y) (show canonF (-1) O = true from hO) hy.2.1
    have e : remL O y = remF y O := by unfold remL; rw [if_pos ht]
    obtain ⟨d1, d2⟩ := ih (O := remL O y) (fun z hz => hL z (List.mem_cons_of_mem _ hz)) (remL_canon O y)
    refine ⟨d1, fun i => ?_⟩
    show Mem i (l.foldl remL (remL O y)) ↔ _
    rw [d2, e, c2, mem_cons]
    constructor
    · rintro ⟨⟨h1, h2⟩, h3⟩
      exact ⟨h1, fun h => h.elim h2 h3⟩
    · rintro ⟨h1, h2⟩
      exact ⟨⟨h1, fun h => h2 (.inl h)⟩, fun h => h2 (.inr h)⟩
theorem gaps_rem {L : List Sp} {s : Sp} (h : takesB L s = true) : L.foldl remL [s] = gapsL L s := by
  have h2 := takesB_iff.1 h
  obtain ⟨c1, c2⟩ := rem_spec (canonF_ok h2.1) (canonB_one.2 h2.2)
  obtain ⟨d1, d2⟩ := gapsL_spec h
  refine canonF_unique c1 d1 (fun i => ?_)
  rw [c2, d2, mem_cons]
  constructor
  · rintro ⟨k | k, k2⟩
    · exact ⟨k, k2⟩
    · exact (mem_nil k).elim
  · rintro ⟨k, k2⟩
    exact ⟨.inl k, k2⟩
end Go.Proofs.Ytncjeleabpodaaa
