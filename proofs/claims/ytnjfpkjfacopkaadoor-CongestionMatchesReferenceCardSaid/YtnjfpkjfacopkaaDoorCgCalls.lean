/- A slice of generated calls that came in. -/
import Derived.Test.YtnjfpkjfacopkaaDoorBlk
import Derived.Test.YtnjfpkjfacopkaaDoorCgMem
import Derived.Deep.Slices
import Derived.Deep.Fields
import Derived.ChangeSame
namespace Go.Proofs.YtnjfpkjfacopkaaDoor
open Go.ChangeShapes Go.WideShapes Go.ChangeAt Go.RowKit Go.Deep
section
variable {H : Type} {enc : TypeId × Value → H} {P : Program} {w : World} {base : Nat} {spare : Nat → Bool} {held : Bool}
/-- A struct of three integers in three cells. -/
theorem three_ints {e : TypeId} {f0 f1 f2 : Field} {k0 k1 k2 : IntKind} {n : Nat} {p : Addr} {cs : List Value} {x : DataW H × List MemPlace}
    (he : P.underlying e = some (.struct #[f0, f1, f2])) (hone : oneCellFields P #[f0, f1, f2] = true)
    (u0 : P.underlying f0.type = some (.int k0)) (u1 : P.underlying f1.type = some (.int k1)) (u2 : P.underlying f2.type = some (.int k2))
    (hc : w.cells? base p 3 = some cs) (ht : DataW.trod enc P w base spare held n e cs = some x) :
    ∃ a b c, w.cell? p = some (.int k0 a) ∧ w.cell? (p.add 1) = some (.int k1 b) ∧ w.cell? (p.add 2) = some (.int k2 c) ∧ (Lit.int k0 a).wf = true ∧ (Lit.int k1 b).wf = true ∧ (Lit.int k2 c).wf = true := by
  obtain ⟨ys, m, _, _, _, hyl, hf⟩ := DataW.trod_struct he ht
  obtain ⟨_, hcl, hat⟩ := World.cells?_some hc
  match cs, hcl with
  | [c0, c1, c2], _ =>
    match ys, hyl with
    | [y0, y1, y2], _ =>
      obtain ⟨o0, q0⟩ := hone_of hone 0 f0 rfl
      obtain ⟨o1, q1⟩ := hone_of hone 1 f1 rfl
      obtain ⟨o2, q2⟩ := hone_of hone 2 f2 rfl
      have g0 := hf 0 f0 rfl
      have g1 := hf 1 f1 rfl
      have g2 := hf 2 f2 rfl
      rw [o0, q0] at g0
      rw [o1, q1] at g1
      rw [o2, q2] at g2
      obtain ⟨a, ha, _, wa⟩ := DataW.trod_int u0 g0
      obtain ⟨b, hb, _, wb⟩ := DataW.trod_int u1 g1
      obtain ⟨c, hc', _, wc⟩ := DataW.trod_int u2 g2
      have e0 : c0 = .int k0 a := by simpa using ha
      have e1 : c1 = .int k1 b := by simpa using hb
      have e2 : c2 = .int k2 c := by simpa using hc'
      have h0 := hat 0 (by omega)
      have h1 := hat 1 (by omega)
      have h2 := hat 2 (by omega)
      refine ⟨a, b, c, ?_, ?_, ?_, wa, wb, wc⟩
      · rw [show p = p.add 0 from rfl, h0, e0]; rfl
      · rw [h1, e1]; rfl
      · rw [h2, e2]; rfl
end
/-- One call: its kind and its two numbers. -/
structure Cl where
  kind : Int
  n : Int
  to : Int
def Cl.Okay (c : Cl) : Prop := In64 c.kind ∧ In64 c.n ∧ In64 c.to
/-- A slice of calls: it reads as cs. -/
def IsCalls (w : World) (a : Option Addr) (len : Nat) (cs : Nat → Cl) : Prop :=
  len ≤ maxLen ∧ (0 < len → ∃ b off, a = some ⟨b, off, none⟩ ∧ b < w.heap.size ∧ ∀ i, i < len →
    w.cell? ⟨b, off + i * 3, none⟩ = some (.int .i64 (cs i).kind) ∧ w.cell? ⟨b, off + i * 3 + 1, none⟩ = some (.int .i64 (cs i).n) ∧ w.cell? ⟨b, off + i * 3 + 2, none⟩ = some (.int .i64 (cs i).to) ∧ (cs i).Okay)
theorem IsCalls.below {w w' : World} {a : Option Addr} {len : Nat} {cs : Nat → Cl} (h : IsCalls w a len cs) (hb : Below w.heap.size w w') : IsCalls w' a len cs := by
  refine ⟨h.1, fun hp => ?_⟩
  obtain ⟨b, off, rfl, hlt, hc⟩ := h.2 hp
  refine ⟨b, off, rfl, Nat.lt_of_lt_of_le hlt hb.size, fun i hi => ?_⟩
  obtain ⟨h0, h1, h2, h3⟩ := hc i hi
  exact ⟨(hb.cell (p := ⟨b, _, none⟩) hlt).trans h0, (hb.cell (p := ⟨b, _, none⟩) hlt).trans h1, (hb.cell (p := ⟨b, _, none⟩) hlt).trans h2, h3⟩
theorem in64_of {n : Int} (h : (Lit.int .i64 n).wf = true) : In64 n := bounds_i64 h
theorem open_calls {H : Type} {enc : TypeId × Value → H} {W : World} {base : Nat} {spare : Nat → Bool} {held : Bool} {a : Option Addr} {len cap : Nat} {d : DataW H} {p : List MemPlace}
    (h : DataW.Trod enc Tryd.prog W base spare held 33 (.slice a len cap) d p) : ∃ cs, IsCalls W a len cs := by
  obtain ⟨fuel, hf⟩ := h
  rcases open_slice Tryd.underlying33 hf with ⟨hcs, _⟩ | ⟨x, l, c, m, n, D, Pl, hcs, _, hl, hm, hmm, _, hi⟩
  · simp [Value.cells] at hcs
    obtain ⟨rfl, rfl, rfl⟩ := hcs
    exact ⟨fun _ => ⟨0, 0, 0⟩, by omega, fun h => absurd h (by omega)⟩
  · simp [Value.cells] at hcs
    obtain ⟨rfl, rfl, rfl⟩ := hcs
    have hlm : len ≤ m := by rw [hmm]; split <;> omega
    have h3 : Tryd.prog.cellsOf 39 = 3 := by kernel_rfl
    rw [h3] at hi
    have key : ∀ i, ∃ c : Cl, i < len → W.cell? (x.add (i * 3)) = some (.int .i64 c.kind) ∧ W.cell? ((x.add (i * 3)).add 1) = some (.int .i64 c.n) ∧ W.cell? ((x.add (i * 3)).add 2) = some (.int .i64 c.to) ∧ c.Okay := by
      intro i
      by_cases hil : i < len
      · obtain ⟨cs', hc, ht⟩ := hi i (by omega)
        obtain ⟨u, v, z, c0, c1, c2, w0, w1, w2⟩ := three_ints Tryd.underlying39 (by kernel_rfl) Tryd.underlying3 Tryd.underlying3 Tryd.underlying3 hc ht
        exact ⟨⟨u, v, z⟩, fun _ => ⟨c0, c1, c2, in64_of w0, in64_of w1, in64_of w2⟩⟩
      · exact ⟨⟨0, 0, 0⟩, fun h => absurd h hil⟩
    obtain ⟨cs, hcs⟩ : ∃ cs : Nat → Cl, ∀ i, i < len → W.cell? (x.add (i * 3)) = some (.int .i64 (cs i).kind) ∧ W.cell? ((x.add (i * 3)).add 1) = some (.int .i64 (cs i).n) ∧ W.cell? ((x.add (i * 3)).add 2) = some (.int .i64 (cs i).to) ∧ (cs i).Okay := ⟨fun i => (key i).choose, fun i => (key i).choose_spec⟩
    refine ⟨cs, by omega, fun hp => ?_⟩
    obtain ⟨b, off, spot⟩ := x
    have hspot : spot = none := by simpa [Addr.add] using World.cell?_spot (hcs 0 hp).1
    subst hspot
    refine ⟨b, off, rfl, ?_, fun i hil => ?_⟩
    · have := block_lt_of_cell (hcs 0 hp).1
      simpa [Addr.add] using this
    · obtain ⟨c0, c1, c2, c3⟩ := hcs i hil
      rw [add_plain] at c0 c1 c2
      rw [add_plain] at c1 c2
      exact ⟨c0, c1, c2, c3⟩
end Go.Proofs.YtnjfpkjfacopkaaDoor
