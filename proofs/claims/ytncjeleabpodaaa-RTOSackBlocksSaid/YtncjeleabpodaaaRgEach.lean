/- The iterator over a list of spans, and the law of a loop over it. -/
import Derived.Test.YtncjeleabpodaaaRgLaw
namespace Go.Proofs.Ytncjeleabpodaaa
open Go.RowKit Go.Shelf
attribute [local go_sem] Oper.semAt_some
set_option maxRecDepth 100000 in
set_option maxHeartbeats 2000000 in
theorem each_in (n : Nat) (hn : 1 ≤ n) (l n₀ : Nat) (a : Option Addr) (cap : Nat) (L : List Sp) (J Jx : Nat → World → Prop)
    (hJ : ∀ k A o, J k A → J k (World.alloc A o))
    (hY : ∀ k (h : k < L.length) W1, J k W1 → YieldAt Fence.wide (n - 1) Try.prog l #[.int .i64 k, .agg #[.int .i64 L[k].1, .int .i64 L[k].2]] W1 fun e W' => (e = .returned (.bool true) ∧ J (k + 1) W' ∧ Below n₀ W1 W') ∨ (e = .returned (.bool false) ∧ Jx k W'))
    (W : World) (hc : SpAt W n₀ a L) (hW : n₀ ≤ W.heap.size) (h0 : J 0 W) :
    CallsIn Fence.wide n Try.prog 64 #[.slice a L.length cap, .func (.yield l) #[] #[]] W fun e W' => (∃ v, e = .returned v) ∧ (J L.length W' ∨ ∃ k, k < L.length ∧ Jx k W') := by
  refine callsIn_of_wp Try.func64 rfl trivial ?_ rfl
  simp only [Try.ntmps64, List.size_toArray, List.length_cons, List.length_nil, Nat.reduceAdd, Nat.reduceSub, Array.replicate_succ, Array.replicate_zero, List.push_toArray, List.append_toArray, List.nil_append, List.cons_append]
  have hsm := hc.small
  have HY := Lib.hid hY
  have HJ := Lib.hid hJ
  clear hY hJ
  gi_wp2
  gi_loopw [8] (fun p wr => ∃ k : Nat, k ≤ L.length ∧ p = .int .i64 k ∧ SpAt wr n₀ a L ∧ n₀ ≤ wr.heap.size ∧ J k wr) (fun p _ => L.length - (intOf p).toNat)
  case atStart => exact ⟨0, Nat.zero_le _, rfl, hc, hW, h0⟩
  case round =>
    clear hc hW h0
    obtain ⟨k, hk, rfl, hs, hw, hJk⟩ := hrel
    by_cases hlt : k < L.length
    · obtain ⟨b, off, rfl, hb, hcs⟩ := hs.cells (by omega)
      obtain ⟨c0, c1⟩ := hcs k hlt
      have HS := Lib.hid hs
      clear hcs hs
      have hlt2 : (k : Int) < (L.length : Int) := by omega
      have hJ2 := HJ.out k wr (.cells #[.int .i64 L[k].1, .int .i64 L[k].2] 51) hJk
      obtain ⟨fn, tmps, assign, body, hy, hR⟩ := HY.out k hlt _ hJ2
      clear hJ2
      gi_wp2
      refine hR.mono ?_
      rintro e W3 (⟨rfl, hJ3, hb3⟩ | ⟨rfl, hJx3⟩)
      · have hb4 := ((Below.refl n₀ wr).alloc hw (.cells #[.int .i64 L[k].1, .int .i64 L[k].2] 51)).trans hb3
        have hs3 := HS.out.below hb4
        have hw3 := Nat.le_trans hw hb4.size
        clear hb3 hb4 hy hR
        gi_wp2
        go_roundw
        case rel => exact ⟨k + 1, by omega, by go_num, hs3, hw3, hJ3⟩
        case measure => simp [intOf]; omega
      · gi_wp2
        refine bodyPost_ret (results_none rfl _ _ _) rfl ?_
        exact ⟨⟨_, rfl⟩, .inr ⟨k, hlt, hJx3⟩⟩
    · obtain rfl : k = L.length := by omega
      gi_wp2
      go_end0
      exact ⟨⟨_, rfl⟩, .inl hJk⟩
/-- How the body of a loop over 'each' may be left at element k. -/
def eachPost (B n₀ : Nat) (I : Nat → World → Prop) (Ix : Code → Nat → World → Prop) (k : Nat) (W : World) : Exit → Act → World → Prop
  | .normal, _, W' => KeepsFrom B W W' ∧ Below n₀ W W' ∧ I (k + 1) W'
  | .ret, _, W' => KeepsFrom B W W' ∧ Ix .ret k W'
  | .exit i, _, W' => KeepsFrom B W W' ∧ Ix (.exit i) k W'
  | .goto t, _, W' => KeepsFrom B W W' ∧ Ix (.goto t) k W'
  | .panic _, _, _ => False
  | .outgrown, _, _ => False
/-- A loop over 'each' of a list of spans. -/
theorem wp_each {g : Operand} {ps : Array Tmp} {assign body : Code} {Q : Exit → Act → World → Prop} {a : Act} {w : World} {n n₀ : Nat} (hn : 2 ≤ n)
    {ad : Option Addr} {cap : Nat} {L : List Sp} (hg : a.eval g = .func (.func 64) #[.slice ad L.length cap] #[]) {p q : Tmp} (hps : ps = #[p, q]) (hc : SpAt w n₀ ad L) (hn₀ : n₀ ≤ w.heap.size)
    (I : Nat → World → Prop) (Ix : Code → Nat → World → Prop) (hI : OwnFrom w.heap.size I) (hIx : ∀ c, OwnFrom w.heap.size (Ix c)) (h0 : I 0 w)
    (hround : ∀ l k (h : k < L.length) W, w.heap.size ≤ l → I k W →
      assign.wpIn (Fence.wide.inRound l) (n - 1 - 1) Try.prog (Exit.then (fun a' W' => KeepsFrom w.heap.size W W' ∧ Below n₀ W W' ∧ ∃ Ax : Unit → World → Prop, OwnFrom w.heap.size Ax ∧ Ax () W' ∧ ∀ W2, Ax () W2 → body.wpIn (Fence.wide.inRound l) (n - 1 - 1) Try.prog (eachPost w.heap.size n₀ I Ix k W2) a' W2) (fun _ _ _ => False))
        { tmps := (a.tmps.setIfInBounds p (.int .i64 k)).setIfInBounds q (.agg #[.int .i64 L[k].1, .int .i64 L[k].2]), defers := [] } W)
    (hdone : ∀ (D : Nat) (W : World), w.heap.size ≤ D → I L.length W → W.heap[D]? = some (.deferred (some [])) → Q .normal { a with defers := { target := .collected D, args := #[] } :: a.defers } W)
    (hstop : ∀ (D : Nat) (c : Code) (k : Nat) (W : World), w.heap.size ≤ D → k < L.length → Ix c k W → W.heap[D]? = some (.deferred (some [])) → c.wpIn Fence.wide n Try.prog Q { a with defers := { target := .collected D, args := #[] } :: a.defers } W) :
    (Code.rangeFunc g ps assign body).wpIn Fence.wide n Try.prog Q a w := by
  subst hps
  refine wpIn_rangeFunc (fun fn hfn => ?_)
  obtain ⟨rec, hrec⟩ : ∃ rec : LoopState → Option Code → Loop, rec = fun st pe => { state := st, pending := pe, fn := fn, tmps := a.tmps, params := #[p, q], assign := assign, body := body, defers := w.heap.size } := ⟨_, rfl⟩
  obtain ⟨W1, hW1⟩ : ∃ W1, W1 = (w.alloc (.deferred (some []))).alloc (.loop (rec .ready none)) := ⟨_, rfl⟩
  have hz : W1.heap.size = w.heap.size + 2 := by rw [hW1]; simp
  have hl1 : W1.heap[w.heap.size + 1]? = some (.loop (rec .ready none)) := by
    have := World.alloc_heap_new (w.alloc (.deferred (some []))) (.loop (rec .ready none))
    rw [World.size_alloc] at this
    rw [hW1]; exact this
  have hd1 : W1.heap[w.heap.size]? = some (.deferred (some [])) := by
    rw [hW1]; exact (Below.heap_alloc _ _ _ (by simp)).trans (World.alloc_heap_new w _)
  have hb1 : Below n₀ w W1 := by rw [hW1]; exact ((Below.refl n₀ w).alloc hn₀ _).alloc (by simp; omega) _
  have hI1 : I 0 W1 := by rw [hW1]; exact hI.alloc _ (hI.alloc _ h0)
  refine ⟨w.heap.size + 1, [{ target := .collected w.heap.size, args := #[] }], W1, { target := .fn (.func 64) #[], args := #[.slice ad L.length cap, .func (.yield (w.heap.size + 1)) #[] #[]] }, W1, 64,
    #[.slice ad L.length cap, .func (.yield (w.heap.size + 1)) #[] #[]], W1, ?_, ?_, fun _ _ => trivial, ?_, fun _ => by omega, ?_⟩
  · rw [hW1, hrec]; exact run_enterLoop_outer _ _ _ _ _
  · simp only [resolve, hg]
    simp [go_sem]
  · simp [invoke, go_sem]
  · have key := each_in (n - 1) (by omega) (w.heap.size + 1) n₀ ad cap L
      (fun k W => I k W ∧ W.heap[w.heap.size + 1]? = some (.loop (rec .ready none)) ∧ W.heap[w.heap.size]? = some (.deferred (some [])))
      (fun k W => ∃ c, Ix c k W ∧ W.heap[w.heap.size + 1]? = some (.loop (rec .done (some c))) ∧ W.heap[w.heap.size]? = some (.deferred (some [])))
      (fun k A o h => ⟨hI.alloc _ h.1, (Below.heap_alloc A o _ (Array.getElem?_eq_some_iff.1 h.2.1).1).trans h.2.1, (Below.heap_alloc A o _ (Array.getElem?_eq_some_iff.1 h.2.2).1).trans h.2.2⟩)
      ?_ W1 (hc.below hb1) (by omega) ⟨hI1, hl1, hd1⟩
    · refine key.mono ?_
      rintro e W2 ⟨⟨v, rfl⟩, (⟨hi, hl, hd⟩ | ⟨k, hk, c, hi, hl, hd⟩)⟩
      · have hrun := run_endLoop (P := Try.prog) hl (by rw [hrec]; simp)
        have hpd : (rec .ready none).pending = none := by rw [hrec]
        rw [hpd] at hrun
        exact ⟨none, _, hrun, hdone w.heap.size _ (Nat.le_refl _) (hI.putObj _ hi (by omega) hl rfl) ((World.putObj_heap_other (by omega)).trans hd)⟩
      · have hrun := run_endLoop (P := Try.prog) hl (by rw [hrec]; simp)
        have hpd : (rec .done (some c)).pending = some c := by rw [hrec]
        rw [hpd] at hrun
        exact ⟨some c, _, hrun, hstop w.heap.size c k _ (Nat.le_refl _) hk ((hIx c).putObj _ hi (by omega) hl rfl) ((World.putObj_heap_other (by omega)).trans hd)⟩
    · rintro k hk W ⟨hi, hl, hd⟩
      subst hrec
      have hfd : ∀ x y : Value, (#[p, q].zip #[x, y]).foldl (fun t (z : Tmp × Value) => t.setIfInBounds z.1 z.2) a.tmps = (a.tmps.setIfInBounds p x).setIfInBounds q y := fun x y => by simp
      refine yieldAt_of (r := { state := .ready, pending := none, fn := fn, tmps := a.tmps, params := #[p, q], assign := assign, body := body, defers := w.heap.size }) (B := w.heap.size) rfl rfl rfl hl (by omega) (wpIn_mono (a := { tmps := _, defers := [] }) (by dsimp only; rw [hfd]; exact hround (w.heap.size + 1) k hk W (by omega) hi) ?_)
      intro e a' W' he
      cases e with
      | normal =>
        obtain ⟨hk1, hb, Ax, hAx, hax, hbd⟩ := he
        have hl' := hk1.same _ _ (by omega) hl rfl
        have hd' := hk1.same _ _ (Nat.le_refl _) hd rfl
        have hlt := (Array.getElem?_eq_some_iff.1 hl').1
        refine ⟨hk1, wpIn_mono (hbd _ (hAx.putObj (s := ()) _ hax (by omega) hl' rfl)) ?_⟩
        intro e3 a3 W3 h3
        have fin : ∀ (W3 : World), KeepsFrom w.heap.size (W'.putObj (w.heap.size + 1) (.loop { state := .busy, pending := none, fn := fn, tmps := a.tmps, params := #[p, q], assign := assign, body := body, defers := w.heap.size })) W3 → W3.heap[w.heap.size + 1]? = some (.loop { state := .busy, pending := none, fn := fn, tmps := a.tmps, params := #[p, q], assign := assign, body := body, defers := w.heap.size }) ∧ W3.heap[w.heap.size]? = some (.deferred (some [])) := fun W3 hk3 => And.intro (hk3.same _ _ (by omega) (World.putObj_heap_same hlt) rfl) (hk3.same _ _ (Nat.le_refl _) ((World.putObj_heap_other (by omega)).trans hd') rfl)
        cases e3 with
        | normal =>
          obtain ⟨hk3, hb3, hi3⟩ := h3
          obtain ⟨hl3, hd3⟩ := fin W3 hk3
          have hlt3 := (Array.getElem?_eq_some_iff.1 hl3).1
          exact ⟨hk3, .inl ⟨rfl, ⟨hI.putObj _ hi3 (by omega) hl3 rfl, World.putObj_heap_same hlt3, (World.putObj_heap_other (by omega)).trans hd3⟩,
            ((hb.trans (belowK_b (w := w) hn₀ _ _ _ _ (by omega) hl' rfl rfl)).trans hb3).trans (belowK_b (w := w) hn₀ _ _ _ _ (by omega) hl3 rfl rfl)⟩⟩
        | ret =>
          obtain ⟨hl3, hd3⟩ := fin W3 h3.1
          exact ⟨h3.1, .inr ⟨rfl, .ret, (hIx _).putObj _ h3.2 (by omega) hl3 rfl, World.putObj_heap_same (Array.getElem?_eq_some_iff.1 hl3).1, (World.putObj_heap_other (by omega)).trans hd3⟩⟩
        | exit i =>
          obtain ⟨hl3, hd3⟩ := fin W3 h3.1
          exact ⟨h3.1, .inr ⟨rfl, .exit i, (hIx _).putObj _ h3.2 (by omega) hl3 rfl, World.putObj_heap_same (Array.getElem?_eq_some_iff.1 hl3).1, (World.putObj_heap_other (by omega)).trans hd3⟩⟩
        | goto t =>
          obtain ⟨hl3, hd3⟩ := fin W3 h3.1
          exact ⟨h3.1, .inr ⟨rfl, .goto t, (hIx _).putObj _ h3.2 (by omega) hl3 rfl, World.putObj_heap_same (Array.getElem?_eq_some_iff.1 hl3).1, (World.putObj_heap_other (by omega)).trans hd3⟩⟩
        | panic c => exact h3.elim
        | outgrown => exact h3.elim
      | ret => exact he.elim
      | exit i => exact he.elim
      | goto t => exact he.elim
      | panic c => exact he.elim
      | outgrown => exact he.elim
end Go.Proofs.Ytncjeleabpodaaa
