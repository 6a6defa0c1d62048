/- The law of a loop over the gaps of a scoreboard. -/
import Derived.Test.YtncjeleabpodaaaScGit
namespace Go.Proofs.Ytncjeleabpodaaa
open Go.RowKit Go.Shelf
/-- The blocks that a round may change: the own block of the slice in cell A (none: no block). -/
def clA (A : Option Nat) (W : World) (b : Nat) : Prop := ∃ x v, A = some x ∧ W.cell? ⟨x, 0, none⟩ = some v ∧ v.ownBlock = some b
/-- From block N on a step has changed none but these, and they are no more than before, or new. -/
def FrA (A : Option Nat) (N : Nat) (W W' : World) : Prop := ∀ b, b < W.heap.size → N ≤ b → ¬ clA A W b → W'.heap[b]? = W.heap[b]? ∧ ¬ clA A W' b
theorem FrA.trans {A : Option Nat} {N : Nat} {W W1 W2 : World} (h : FrA A N W W1) (k : FrA A N W1 W2) (hs : W.heap.size ≤ W1.heap.size) : FrA A N W W2 := fun b h1 h2 h3 => by
  obtain ⟨a1, a2⟩ := h b h1 h2 h3
  obtain ⟨b1, b2⟩ := k b (by omega) h2 a2
  exact ⟨b1.trans a1, b2⟩
theorem FrA.refl (A : Option Nat) (N : Nat) (W : World) : FrA A N W W := fun _ _ _ h => ⟨rfl, h⟩
theorem clA_same {A : Option Nat} {W W' : World} {b : Nat} (h : ∀ x, A = some x → W'.cell? ⟨x, 0, none⟩ = W.cell? ⟨x, 0, none⟩) : clA A W' b → clA A W b := by
  rintro ⟨x, v, e, hc, ho⟩
  exact ⟨x, v, e, by rw [← h x e]; exact hc, ho⟩
theorem FrA.alloc {A : Option Nat} {N : Nat} {W : World} (hA : ∀ x, A = some x → x < W.heap.size) (o : Obj) : FrA A N W (W.alloc o) := fun b h1 _ h3 =>
  ⟨Below.heap_alloc W o b h1, fun h => h3 (clA_same (fun x e => World.cell?_of_block (a := ⟨x, 0, none⟩) (Below.heap_alloc W o x (hA x e))) h)⟩
theorem FrA.below {A : Option Nat} {N : Nat} {W W' : World} (hA : ∀ x, A = some x → x < W.heap.size) (hb : Below W.heap.size W W') : FrA A N W W' := fun b h1 _ h3 =>
  ⟨hb.block b h1, fun h => h3 (clA_same (fun x e => World.cell?_of_block (a := ⟨x, 0, none⟩) (hb.block x (hA x e))) h)⟩
theorem FrA.putObj {A : Option Nat} {N l : Nat} {W : World} (hA : ∀ x, A = some x → x ≠ l) (hl : l < N) (o : Obj) : FrA A N W (W.putObj l o) := fun b h1 h2 h3 =>
  ⟨World.putObj_heap_other (by omega), fun h => h3 (clA_same (fun x e => World.cell?_of_block (a := ⟨x, 0, none⟩) (World.putObj_heap_other (hA x e))) h)⟩
/-- How the body of a loop over gaps may be left at gap k. -/
def gapsPost (A : Option Nat) (B n₀ : Nat) (I : Nat → World → Prop) (k : Nat) (W : World) : Exit → Act → World → Prop
  | .normal, _, W' => KeepsFrom B W W' ∧ Below n₀ W W' ∧ FrA A (B + 2) W W' ∧ I (k + 1) W'
  | _, _, _ => False
set_option maxHeartbeats 1000000 in
/-- A loop over the gaps that is not left early. -/
theorem wp_gaps {g : Operand} {ps : Array Tmp} {assign body : Code} {Q : Exit → Act → World → Prop} {a : Act} {w : World} {n n₀ C M B : Nat} (hn : 2 ≤ n)
    {s : Sc} (ok : s.Ok) {m : Int} {sa : Option Addr} {sc : Nat} (hg : a.eval g = .func (.func 97) #[] #[.pointer (some ⟨C, 0, none⟩), .pointer (some ⟨M, 0, none⟩)])
    {p q : Tmp} (hps : ps = #[p, q]) (hG : Gv n₀ C M B s m sa sc w) (A : Option Nat) (hA : ∀ x, A = some x → x < w.heap.size)
    (I : Nat → World → Prop) (hI : OwnFrom w.heap.size I) (hIB : ∀ k W W', I k W → Below W.heap.size W W' → I k W') (hIA : ∀ k W b, I k W → clA A W b → b < W.heap.size) (hIC : ∀ k W, I k W → W.cell? ⟨C, 0, none⟩ = some (.pointer (some ⟨B, 0, none⟩)) ∧ W.cell? ⟨M, 0, none⟩ = some (.int .i64 m)) (h0 : I 0 w)
    (hround : ∀ l k (h : k < s.gaps.length) W, w.heap.size ≤ l → w.heap.size + 2 ≤ W.heap.size → I k W →
      assign.wpIn (Fence.wide.inRound l) (n - 1 - 1) Try.prog (Exit.then (fun a' W' => KeepsFrom w.heap.size W W' ∧ Below n₀ W W' ∧ FrA A (w.heap.size + 2) W W' ∧ ∃ Ax : Unit → World → Prop, OwnFrom w.heap.size Ax ∧ Ax () W' ∧ ∀ W2, Ax () W2 → body.wpIn (Fence.wide.inRound l) (n - 1 - 1) Try.prog (gapsPost A w.heap.size n₀ I k W2) a' W2) (fun _ _ _ => False))
        { tmps := (a.tmps.setIfInBounds p (.agg #[.int .i64 s.gaps[k].1, .int .i64 s.gaps[k].2])).setIfInBounds q (.agg #[.int .i64 (s.lostOf m s.gaps[k]).1, .int .i64 (s.lostOf m s.gaps[k]).2]), defers := [] } W)
    (hdone : ∀ (D : Nat) (W : World), w.heap.size ≤ D → I s.gaps.length W → W.heap[D]? = some (.deferred (some [])) → Q .normal { a with defers := { target := .collected D, args := #[] } :: a.defers } W) :
    (Code.rangeFunc g ps assign body).wpIn Fence.wide n Try.prog Q a w := by
  subst hps
  have hn₀ : n₀ ≤ w.heap.size := hG.hz
  refine wpIn_rangeFunc (fun fn hfn => ?_)
  obtain ⟨rec, hrec⟩ : ∃ rec : LoopState → Option Code → Loop, rec = fun st pe => { state := st, pending := pe, fn := fn, tmps := a.tmps, params := #[p, q], assign := assign, body := body, defers := w.heap.size } := ⟨_, rfl⟩
  obtain ⟨W1, hW1⟩ : ∃ W1, W1 = (w.alloc (.deferred (some []))).alloc (.loop (rec .ready none)) := ⟨_, rfl⟩
  have hz : W1.heap.size = w.heap.size + 2 := by rw [hW1]; simp
  have hl1 : W1.heap[w.heap.size + 1]? = some (.loop (rec .ready none)) := by
    have := World.alloc_heap_new (w.alloc (.deferred (some []))) (.loop (rec .ready none))
    rw [World.size_alloc] at this
    rw [hW1]; exact this
  have hd1 : W1.heap[w.heap.size]? = some (.deferred (some [])) := by
    rw [hW1]; exact (Below.heap_alloc _ _ _ (by simp)).trans (World.alloc_heap_new w _)
  have hb1 : Below n₀ w W1 := by rw [hW1]; exact ((Below.refl n₀ w).alloc hn₀ _).alloc (by simp; omega) _
  have hb1w : Below w.heap.size w W1 := by rw [hW1]; exact ((Below.refl w.heap.size w).alloc (Nat.le_refl _) _).alloc (by simp) _
  have hI1 : I 0 W1 := by rw [hW1]; exact hI.alloc _ (hI.alloc _ h0)
  refine ⟨w.heap.size + 1, [{ target := .collected w.heap.size, args := #[] }], W1, { target := .fn (.func 97) #[.pointer (some ⟨C, 0, none⟩), .pointer (some ⟨M, 0, none⟩)], args := #[.func (.yield (w.heap.size + 1)) #[] #[]] }, W1, 97,
    #[.func (.yield (w.heap.size + 1)) #[] #[], .pointer (some ⟨C, 0, none⟩), .pointer (some ⟨M, 0, none⟩)], W1, ?_, ?_, fun _ _ => trivial, ?_, fun _ => by omega, ?_⟩
  · rw [hW1, hrec]; exact run_enterLoop_outer _ _ _ _ _
  · simp only [resolve, hg]
    simp [go_sem]
  · simp [invoke, go_sem]
  · have key := gapsit_in (n - 1) (by omega) (w.heap.size + 1) n₀ C M B s ok m sa sc W1 (clA A)
      (fun k W => I k W ∧ W.heap[w.heap.size + 1]? = some (.loop (rec .ready none)) ∧ W.heap[w.heap.size]? = some (.deferred (some [])))
      (fun _ _ => False) ?_ ?_ (fun k W h => hIC k W h.1) (hG.below hb1w) ⟨hI1, hl1, hd1⟩
    · refine key.mono ?_
      rintro e W2 ⟨⟨v, rfl⟩, (⟨hi, hl, hd⟩ | ⟨k, hk, hi⟩)⟩
      · have hrun := run_endLoop (P := Try.prog) hl (by rw [hrec]; simp)
        have hpd : (rec .ready none).pending = none := by rw [hrec]
        rw [hpd] at hrun
        exact ⟨none, _, hrun, hdone w.heap.size _ (Nat.le_refl _) (hI.putObj _ hi (by omega) hl rfl) ((World.putObj_heap_other (by omega)).trans hd)⟩
      · exact hi.elim
    · rintro k W W' ⟨hi, hl, hd⟩ hb
      refine ⟨⟨hIB k W W' hi hb, (hb.block _ (Array.getElem?_eq_some_iff.1 hl).1).trans hl, (hb.block _ (Array.getElem?_eq_some_iff.1 hd).1).trans hd⟩, fun b hc => ?_⟩
      have hc' : clA A W b := clA_same (fun x e => World.cell?_of_block (a := ⟨x, 0, none⟩) (hb.block x (by have := hA x e; have := (Array.getElem?_eq_some_iff.1 hl).1; omega))) hc
      exact ⟨hc', hIA k W b hi hc'⟩
    · rintro k hk W ⟨hi, hl, hd⟩
      have hWz : w.heap.size + 2 ≤ W.heap.size := by have := (Array.getElem?_eq_some_iff.1 hl).1; omega
      subst hrec
      have hfd : ∀ x y : Value, (#[p, q].zip #[x, y]).foldl (fun t (z : Tmp × Value) => t.setIfInBounds z.1 z.2) a.tmps = (a.tmps.setIfInBounds p x).setIfInBounds q y := fun x y => by simp
      refine yieldAt_of (r := { state := .ready, pending := none, fn := fn, tmps := a.tmps, params := #[p, q], assign := assign, body := body, defers := w.heap.size }) (B := w.heap.size) rfl rfl rfl hl (by omega) (wpIn_mono (a := { tmps := _, defers := [] }) (by dsimp only; rw [hfd]; exact hround (w.heap.size + 1) k hk W (by omega) hWz hi) ?_)
      intro e a' W' he
      cases e with
      | normal =>
        obtain ⟨hk1, hb, hf, Ax, hAx, hax, hbd⟩ := he
        have hl' := hk1.same _ _ (by omega) hl rfl
        have hd' := hk1.same _ _ (Nat.le_refl _) hd rfl
        have hlt := (Array.getElem?_eq_some_iff.1 hl').1
        refine ⟨hk1, wpIn_mono (hbd _ (hAx.putObj (s := ()) _ hax (by omega) hl' rfl)) ?_⟩
        intro e3 a3 W3 h3
        have fin : ∀ (W3 : World), KeepsFrom w.heap.size (W'.putObj (w.heap.size + 1) (.loop { state := .busy, pending := none, fn := fn, tmps := a.tmps, params := #[p, q], assign := assign, body := body, defers := w.heap.size })) W3 → W3.heap[w.heap.size + 1]? = some (.loop { state := .busy, pending := none, fn := fn, tmps := a.tmps, params := #[p, q], assign := assign, body := body, defers := w.heap.size }) ∧ W3.heap[w.heap.size]? = some (.deferred (some [])) := fun W3 hk3 => And.intro (hk3.same _ _ (by omega) (World.putObj_heap_same hlt) rfl) (hk3.same _ _ (Nat.le_refl _) ((World.putObj_heap_other (by omega)).trans hd') rfl)
        have hAn : ∀ x, A = some x → x ≠ w.heap.size + 1 := fun x e => by have := hA x e; omega
        cases e3 with
        | normal =>
          obtain ⟨hk3, hb3, hf3, hi3⟩ := h3
          obtain ⟨hl3, hd3⟩ := fin W3 hk3
          have hlt3 := (Array.getElem?_eq_some_iff.1 hl3).1
          refine ⟨hk3, .inl ⟨rfl, ⟨hI.putObj _ hi3 (by omega) hl3 rfl, World.putObj_heap_same hlt3, (World.putObj_heap_other (by omega)).trans hd3⟩,
            ((hb.trans (belowK_b (w := w) hn₀ _ _ _ _ (by omega) hl' rfl rfl)).trans hb3).trans (belowK_b (w := w) hn₀ _ _ _ _ (by omega) hl3 rfl rfl), ?_⟩⟩
          rw [hz]
          refine (((hf.trans (FrA.putObj hAn (by omega) _) hb.size).trans hf3 ?_).trans (FrA.putObj hAn (by omega) _) ?_)
          · rw [World.putObj_size]; exact hb.size
          · refine Nat.le_trans (Nat.le_trans hb.size ?_) hb3.size
            rw [World.putObj_size]; exact Nat.le_refl _
        | ret => exact h3.elim
        | exit i => exact h3.elim
        | goto t => exact h3.elim
        | panic c => exact h3.elim
        | outgrown => exact h3.elim
      | ret => exact he.elim
      | exit i => exact he.elim
      | goto t => exact he.elim
      | panic c => exact he.elim
      | outgrown => exact he.elim
end Go.Proofs.Ytncjeleabpodaaa
