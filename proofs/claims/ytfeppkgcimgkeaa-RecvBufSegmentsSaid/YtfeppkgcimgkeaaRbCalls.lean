/- A slice of generated calls that came in. -/
import Derived.Test.YtfeppkgcimgkeaaBlk
import Derived.Test.YtfeppkgcimgkeaaRbNil
import Derived.Deep.Slices
import Derived.Deep.Fields
import Derived.ChangeSame
namespace Go.Proofs.Ytfeppkgcimgkeaa
open Go.ChangeShapes Go.WideShapes Go.ChangeAt Go.RowKit Go.Deep
section
variable {H : Type} {enc : TypeId × Value → H} {P : Program} {w : World} {base : Nat} {spare : Nat → Bool} {held : Bool}
/-- A struct of an integer, an integer, a string and an integer in four cells. -/
theorem four_call {e : TypeId} {f0 f1 f2 f3 : Field} {k0 k1 k3 : IntKind} {n : Nat} {p : Addr} {cs : List Value} {x : DataW H × List MemPlace}
    (he : P.underlying e = some (.struct #[f0, f1, f2, f3])) (hone : oneCellFields P #[f0, f1, f2, f3] = true)
    (u0 : P.underlying f0.type = some (.int k0)) (u1 : P.underlying f1.type = some (.int k1)) (u2 : P.underlying f2.type = some .string) (u3 : P.underlying f3.type = some (.int k3))
    (hc : w.cells? base p 4 = some cs) (ht : DataW.trod enc P w base spare held n e cs = some x) :
    ∃ a b s c, w.cell? p = some (.int k0 a) ∧ w.cell? (p.add 1) = some (.int k1 b) ∧ w.cell? (p.add 2) = some (.string s) ∧ w.cell? (p.add 3) = some (.int k3 c) ∧ (Lit.int k0 a).wf = true ∧ (Lit.int k1 b).wf = true ∧ s.size ≤ maxLen ∧ (Lit.int k3 c).wf = true := by
  obtain ⟨ys, m, _, _, _, hyl, hf⟩ := DataW.trod_struct he ht
  obtain ⟨_, hcl, hat⟩ := World.cells?_some hc
  match cs, hcl with
  | [c0, c1, c2, c3], _ =>
    match ys, hyl with
    | [y0, y1, y2, y3], _ =>
      obtain ⟨o0, q0⟩ := hone_of hone 0 f0 rfl
      obtain ⟨o1, q1⟩ := hone_of hone 1 f1 rfl
      obtain ⟨o2, q2⟩ := hone_of hone 2 f2 rfl
      obtain ⟨o3, q3⟩ := hone_of hone 3 f3 rfl
      have g0 := hf 0 f0 rfl
      have g1 := hf 1 f1 rfl
      have g2 := hf 2 f2 rfl
      have g3 := hf 3 f3 rfl
      rw [o0, q0] at g0
      rw [o1, q1] at g1
      rw [o2, q2] at g2
      rw [o3, q3] at g3
      obtain ⟨a, ha, _, wa⟩ := DataW.trod_int u0 g0
      obtain ⟨b, hb, _, wb⟩ := DataW.trod_int u1 g1
      obtain ⟨s, hs, _, ws⟩ := DataW.trod_string u2 g2
      obtain ⟨c, hc', _, wc⟩ := DataW.trod_int u3 g3
      have e0 : c0 = .int k0 a := by simpa using ha
      have e1 : c1 = .int k1 b := by simpa using hb
      have e2 : c2 = .string s := by simpa using hs
      have e3 : c3 = .int k3 c := by simpa using hc'
      have h0 := hat 0 (by omega)
      have h1 := hat 1 (by omega)
      have h2 := hat 2 (by omega)
      have h3 := hat 3 (by omega)
      refine ⟨a, b, s, c, ?_, ?_, ?_, ?_, wa, wb, ws, wc⟩
      · rw [show p = p.add 0 from rfl, h0, e0]; rfl
      · rw [h1, e1]; rfl
      · rw [h2, e2]; rfl
      · rw [h3, e3]; rfl
end
/-- One call: its kind, its offset, its bytes, its number. -/
structure Cl where
  kind : Int
  off : Int
  s : ByteArray
  n : Int
def Cl.Okay (c : Cl) : Prop := (0 ≤ c.kind ∧ c.kind ≤ 255) ∧ (-9223372036854775808 ≤ c.off ∧ c.off ≤ 9223372036854775807) ∧ c.s.size ≤ 9223372036854775807 ∧ (-9223372036854775808 ≤ c.n ∧ c.n ≤ 9223372036854775807)
def Cl.At (W : World) (b off : Nat) (c : Cl) : Prop :=
  W.cell? ⟨b, off, none⟩ = some (.int .u8 c.kind) ∧ W.cell? ⟨b, off + 1, none⟩ = some (.int .i64 c.off) ∧ W.cell? ⟨b, off + 2, none⟩ = some (.string c.s) ∧ W.cell? ⟨b, off + 3, none⟩ = some (.int .i64 c.n) ∧ c.Okay
/-- A slice of calls: it reads as cs. -/
def IsCalls (w : World) (a : Option Addr) (len : Nat) (cs : Nat → Cl) : Prop :=
  len ≤ maxLen ∧ (0 < len → ∃ b off, a = some ⟨b, off, none⟩ ∧ b < w.heap.size ∧ ∀ i, i < len → Cl.At w b (off + i * 4) (cs i))
theorem Cl.At.below {W W' : World} {b off n : Nat} {c : Cl} (h : Cl.At W b off c) (hb : Below n W W') (hlt : b < n) : Cl.At W' b off c := by
  obtain ⟨h0, h1, h2, h3, h4⟩ := h
  exact ⟨(hb.cell (p := ⟨b, _, none⟩) hlt).trans h0, (hb.cell (p := ⟨b, _, none⟩) hlt).trans h1, (hb.cell (p := ⟨b, _, none⟩) hlt).trans h2, (hb.cell (p := ⟨b, _, none⟩) hlt).trans h3, h4⟩
theorem open_calls {H : Type} {enc : TypeId × Value → H} {W : World} {base : Nat} {spare : Nat → Bool} {held : Bool} {a : Option Addr} {len cap : Nat} {d : DataW H} {p : List MemPlace}
    (h : DataW.Trod enc Try.prog W base spare held 36 (.slice a len cap) d p) : ∃ cs, IsCalls W a len cs := by
  obtain ⟨fuel, hf⟩ := h
  rcases open_slice Try.underlying36 hf with ⟨hcs, _⟩ | ⟨x, l, c, m, n, D, Pl, hcs, _, hl, hm, hmm, _, hi⟩
  · simp [Value.cells] at hcs
    obtain ⟨rfl, rfl, rfl⟩ := hcs
    exact ⟨fun _ => ⟨0, 0, ⟨#[]⟩, 0⟩, by omega, fun h => absurd h (by omega)⟩
  · simp [Value.cells] at hcs
    obtain ⟨rfl, rfl, rfl⟩ := hcs
    have hlm : len ≤ m := by rw [hmm]; split <;> omega
    have h3 : Try.prog.cellsOf 40 = 4 := by kernel_rfl
    rw [h3] at hi
    have key : ∀ i, ∃ c : Cl, i < len → W.cell? (x.add (i * 4)) = some (.int .u8 c.kind) ∧ W.cell? ((x.add (i * 4)).add 1) = some (.int .i64 c.off) ∧ W.cell? ((x.add (i * 4)).add 2) = some (.string c.s) ∧ W.cell? ((x.add (i * 4)).add 3) = some (.int .i64 c.n) ∧ c.Okay := by
      intro i
      by_cases hil : i < len
      · obtain ⟨cs', hc, ht⟩ := hi i (by omega)
        obtain ⟨u, v, s, z, c0, c1, c2, c3, w0, w1, w2, w3⟩ := four_call Try.underlying40 (by kernel_rfl) Try.underlying5 Try.underlying3 Try.underlying9 Try.underlying3 hc ht
        have hb := bounds_u8 w0
        exact ⟨⟨u, v, s, z⟩, fun _ => ⟨c0, c1, c2, c3, hb, bounds_i64 w1, by unfold maxLen at w2; show s.size ≤ _; omega, bounds_i64 w3⟩⟩
      · exact ⟨⟨0, 0, ⟨#[]⟩, 0⟩, fun h => absurd h hil⟩
    obtain ⟨cs, hcs⟩ : ∃ cs : Nat → Cl, ∀ i, i < len → W.cell? (x.add (i * 4)) = some (.int .u8 (cs i).kind) ∧ W.cell? ((x.add (i * 4)).add 1) = some (.int .i64 (cs i).off) ∧ W.cell? ((x.add (i * 4)).add 2) = some (.string (cs i).s) ∧ W.cell? ((x.add (i * 4)).add 3) = some (.int .i64 (cs i).n) ∧ (cs i).Okay := ⟨fun i => (key i).choose, fun i => (key i).choose_spec⟩
    refine ⟨cs, by omega, fun hp => ?_⟩
    obtain ⟨b, off, spot⟩ := x
    have hspot : spot = none := by simpa [Addr.add] using World.cell?_spot (hcs 0 hp).1
    subst hspot
    refine ⟨b, off, rfl, ?_, fun i hil => ?_⟩
    · have := block_lt_of_cell (hcs 0 hp).1
      simpa [Addr.add] using this
    · obtain ⟨c0, c1, c2, c3, c4⟩ := hcs i hil
      rw [add_plain] at c0 c1 c2 c3
      rw [add_plain] at c1 c2 c3
      exact ⟨c0, c1, c2, c3, c4⟩
end Go.Proofs.Ytfeppkgcimgkeaa
