/- A range over a method value (a function whose receiver is bound): the kit's laws speak of closures alone. -/
import Derived.Test.YtncjeleabpodaaaChecked
import Derived.Test.YtncjeleabpodaaaRgPlain
import Derived.RangeFuncNested
import Derived.RangeFuncBound
import Derived.RangeFuncCalls
import Derived.RangeFuncLeaves
import Derived.Shelf.Abstract
import Derived.Shelf.RegionOpen
import Derived.WalkKit
import Derived.OwnWalkIn
import Derived.TacticsInMore
import Derived.LoopNIn
import Derived.LoopIn
namespace Go.Proofs.Ytncjeleabpodaaa
open Go.RowKit Go.Shelf
/-- How a round's body may be left: the record l, which was r (ready), is set anew. -/
def leaveR (B l : Nat) (r : Loop) (R : Ending → World → Prop) (W : World) : Exit → Act → World → Prop
  | .normal, _, W' => KeepsFrom B W W' ∧ R (.returned (.bool true)) (W'.putObj l (.loop r))
  | .ret, _, W' => KeepsFrom B W W' ∧ R (.returned (.bool false)) (W'.putObj l (.loop { r with state := .done, pending := some .ret }))
  | .exit i, _, W' => KeepsFrom B W W' ∧ R (.returned (.bool false)) (W'.putObj l (.loop { r with state := .done, pending := some (.exit i) }))
  | .goto t, _, W' => KeepsFrom B W W' ∧ R (.returned (.bool false)) (W'.putObj l (.loop { r with state := .done, pending := some (.goto t) }))
  | .panic _, _, _ => False
  | .outgrown, _, _ => False
/-- One call of yield, out of the walks of the assignment and of the body. -/
theorem yieldAt_of {P : Program} {n B l : Nat} {r : Loop} (hrs : r.state = .ready) (hrp : r.pending = none) {args : Array Value} (hs : args.size = r.params.size) {W : World} (hl : W.heap[l]? = some (.loop r)) (hB : B ≤ l)
    {R : Ending → World → Prop}
    (h : r.assign.wpIn (Fence.wide.inRound l) n P (Exit.then (fun a' W' => KeepsFrom B W W' ∧ r.body.wpIn (Fence.wide.inRound l) n P (leaveR B l r R (W'.putObj l (.loop { r with state := .busy }))) a' (W'.putObj l (.loop { r with state := .busy }))) (fun _ _ _ => False))
      { tmps := (r.params.zip args).foldl (fun t (p, v) => t.setIfInBounds p v) r.tmps, defers := [] } W) :
    YieldAt Fence.wide n P l args W R := by
  refine ⟨r.fn, _, r.assign, r.body, run_yield hl hs, roundIn_of_wpIn trivial (wpIn_mono h ?_)⟩
  intro e a' W' he
  cases e with
  | normal =>
    obtain ⟨hk, hb⟩ := he
    have hl' := hk.same l _ hB hl rfl
    have hlt := (Array.getElem?_eq_some_iff.1 hl').1
    refine ⟨_, run_beginRound hl' hrs, wpIn_mono hb ?_⟩
    have hl2 : (W'.putObj l (.loop { r with state := .busy })).heap[l]? = some (.loop { r with state := .busy }) := World.putObj_heap_same hlt
    intro e3 a3 W3 h3
    cases e3 with
    | normal =>
      obtain ⟨hk3, hr3⟩ := h3
      refine ⟨_, _, run_endRound none (hk3.same l _ hB hl2 rfl), ?_⟩
      have e1 : ({ { r with state := .busy } with state := if (none : Option Code).isNone = true then .ready else .done, pending := none } : Loop) = r := by cases r; cases hrs; cases hrp; rfl
      rw [e1]
      exact hr3
    | ret => exact ⟨_, _, run_endRound (some .ret) (h3.1.same l _ hB hl2 rfl), h3.2⟩
    | exit i => exact ⟨_, _, run_endRound (some (.exit i)) (h3.1.same l _ hB hl2 rfl), h3.2⟩
    | goto t => exact ⟨_, _, run_endRound (some (.goto t)) (h3.1.same l _ hB hl2 rfl), h3.2⟩
    | panic c => exact h3.elim
    | outgrown => exact h3.elim
  | ret => exact he.elim
  | exit i => exact he.elim
  | goto t => exact he.elim
  | panic c => exact he.elim
  | outgrown => exact he.elim
/-- A slice of spans: the address reads as L, below block n₀. -/
structure SpAt (w : World) (n₀ : Nat) (a : Option Addr) (L : List Sp) : Prop where
  small : L.length ≤ 1099511627776
  cells : 0 < L.length → ∃ b off, a = some ⟨b, off, none⟩ ∧ b < n₀ ∧ ∀ i (h : i < L.length), w.cell? ⟨b, off + i * 2, none⟩ = some (.int .i64 L[i].1) ∧ w.cell? ⟨b, off + i * 2 + 1, none⟩ = some (.int .i64 L[i].2)
theorem SpAt.below {w w' : World} {n₀ : Nat} {a : Option Addr} {L : List Sp} (h : SpAt w n₀ a L) (hb : Below n₀ w w') : SpAt w' n₀ a L :=
  ⟨h.small, fun hl => by
    obtain ⟨b, off, ha, hbl, hc⟩ := h.cells hl
    exact ⟨b, off, ha, hbl, fun i hi => ⟨(hb.cell (p := ⟨b, _, none⟩) hbl).trans (hc i hi).1, (hb.cell (p := ⟨b, _, none⟩) hbl).trans (hc i hi).2⟩⟩⟩
theorem SpAt.mono {w : World} {n₀ n₁ : Nat} {a : Option Addr} {L : List Sp} (h : SpAt w n₀ a L) (hn : n₀ ≤ n₁) : SpAt w n₁ a L :=
  ⟨h.small, fun hl => by
    obtain ⟨b, off, ha, hbl, hc⟩ := h.cells hl
    exact ⟨b, off, ha, Nat.lt_of_lt_of_le hbl hn, hc⟩⟩
def spV (x : Sp) : Value := .agg #[.int .i64 x.1, .int .i64 x.2]
end Go.Proofs.Ytncjeleabpodaaa
