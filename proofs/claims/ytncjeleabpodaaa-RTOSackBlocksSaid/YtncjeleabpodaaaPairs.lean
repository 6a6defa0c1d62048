/- Slices of pairs and of triples of bytes that came in. -/
import Derived.Test.YtncjeleabpodaaaBlk
import Derived.Test.YtncjeleabpodaaaRtoAck
import Derived.Deep.Slices
import Derived.Deep.Fields
import Derived.ChangeSame
namespace Go.Proofs.Ytncjeleabpodaaa
open Go.ChangeShapes Go.WideShapes Go.ChangeAt Go.RowKit Go.Deep
section
variable {H : Type} {enc : TypeId × Value → H} {P : Program} {w : World} {base : Nat} {spare : Nat → Bool} {held : Bool}
theorem pair_bytes {t e : TypeId} {n : Nat} {p : Addr} {cs : List Value} {x : DataW H × List MemPlace} (he : P.underlying t = some (.array 2 e)) (hone : P.cellsOf e = 1) (u0 : P.underlying e = some (.int .u8))
    (hc : w.cells? base p 2 = some cs) (ht : DataW.trod enc P w base spare held n t cs = some x) :
    ∃ a b, w.cell? p = some (.int .u8 a) ∧ w.cell? (p.add 1) = some (.int .u8 b) ∧ (Lit.int .u8 a).wf = true ∧ (Lit.int .u8 b).wf = true := by
  obtain ⟨ys, m, _, _, _, hyl, hf⟩ := DataW.trod_array he ht
  obtain ⟨_, hcl, hat⟩ := World.cells?_some hc
  match cs, hcl with
  | [c0, c1], _ =>
    match ys, hyl with
    | [y0, y1], _ =>
      have g0 := hf 0 (by omega)
      have g1 := hf 1 (by omega)
      rw [hone] at g0 g1
      obtain ⟨a, ha, _, wa⟩ := DataW.trod_int u0 g0
      obtain ⟨b, hb, _, wb⟩ := DataW.trod_int u0 g1
      have e0 : c0 = .int .u8 a := by simpa using ha
      have e1 : c1 = .int .u8 b := by simpa using hb
      have h0 := hat 0 (by omega)
      have h1 := hat 1 (by omega)
      refine ⟨a, b, ?_, ?_, wa, wb⟩
      · rw [show p = p.add 0 from rfl, h0, e0]; rfl
      · rw [h1, e1]; rfl
theorem triple_bytes {t e : TypeId} {n : Nat} {p : Addr} {cs : List Value} {x : DataW H × List MemPlace} (he : P.underlying t = some (.array 3 e)) (hone : P.cellsOf e = 1) (u0 : P.underlying e = some (.int .u8))
    (hc : w.cells? base p 3 = some cs) (ht : DataW.trod enc P w base spare held n t cs = some x) :
    ∃ a b c, w.cell? p = some (.int .u8 a) ∧ w.cell? (p.add 1) = some (.int .u8 b) ∧ w.cell? (p.add 2) = some (.int .u8 c) ∧ (Lit.int .u8 a).wf = true ∧ (Lit.int .u8 b).wf = true ∧ (Lit.int .u8 c).wf = true := by
  obtain ⟨ys, m, _, _, _, hyl, hf⟩ := DataW.trod_array he ht
  obtain ⟨_, hcl, hat⟩ := World.cells?_some hc
  match cs, hcl with
  | [c0, c1, c2], _ =>
    match ys, hyl with
    | [y0, y1, y2], _ =>
      have g0 := hf 0 (by omega)
      have g1 := hf 1 (by omega)
      have g2 := hf 2 (by omega)
      rw [hone] at g0 g1 g2
      obtain ⟨a, ha, _, wa⟩ := DataW.trod_int u0 g0
      obtain ⟨b, hb, _, wb⟩ := DataW.trod_int u0 g1
      obtain ⟨c, hc', _, wc⟩ := DataW.trod_int u0 g2
      have e0 : c0 = .int .u8 a := by simpa using ha
      have e1 : c1 = .int .u8 b := by simpa using hb
      have e2 : c2 = .int .u8 c := by simpa using hc'
      have h0 := hat 0 (by omega)
      have h1 := hat 1 (by omega)
      have h2 := hat 2 (by omega)
      refine ⟨a, b, c, ?_, ?_, ?_, wa, wb, wc⟩
      · rw [show p = p.add 0 from rfl, h0, e0]; rfl
      · rw [h1, e1]; rfl
      · rw [h2, e2]; rfl
end
/-- A slice of pairs of bytes: it reads as zs. -/
def IsPairs (w : World) (a : Option Addr) (len : Nat) (zs : Nat → Int × Int) : Prop :=
  len ≤ maxLen ∧ (0 < len → ∃ b off, a = some ⟨b, off, none⟩ ∧ b < w.heap.size ∧ ∀ i, i < len →
    w.cell? ⟨b, off + i * 2, none⟩ = some (.int .u8 (zs i).1) ∧ w.cell? ⟨b, off + i * 2 + 1, none⟩ = some (.int .u8 (zs i).2) ∧ (0 ≤ (zs i).1 ∧ (zs i).1 ≤ 255) ∧ 0 ≤ (zs i).2 ∧ (zs i).2 ≤ 255)
theorem open_pairs {H : Type} {enc : TypeId × Value → H} {W : World} {base : Nat} {spare : Nat → Bool} {held : Bool} {a : Option Addr} {len cap : Nat} {d : DataW H} {p : List MemPlace}
    (h : DataW.Trod enc Try.prog W base spare held 22 (.slice a len cap) d p) : ∃ zs, IsPairs W a len zs := by
  obtain ⟨fuel, hf⟩ := h
  rcases open_slice Try.underlying22 hf with ⟨hcs, _⟩ | ⟨x, l, c, m, n, D, Pl, hcs, _, hl, hm, hmm, _, hi⟩
  · simp [Value.cells] at hcs
    obtain ⟨rfl, rfl, rfl⟩ := hcs
    exact ⟨fun _ => (0, 0), by omega, fun h => absurd h (by omega)⟩
  · simp [Value.cells] at hcs
    obtain ⟨rfl, rfl, rfl⟩ := hcs
    have hlm : len ≤ m := by rw [hmm]; split <;> omega
    have h3 : Try.prog.cellsOf 28 = 2 := by kernel_rfl
    rw [h3] at hi
    have key : ∀ i, ∃ c : Int × Int, i < len → W.cell? (x.add (i * 2)) = some (.int .u8 c.1) ∧ W.cell? ((x.add (i * 2)).add 1) = some (.int .u8 c.2) ∧ (0 ≤ c.1 ∧ c.1 ≤ 255) ∧ 0 ≤ c.2 ∧ c.2 ≤ 255 := by
      intro i
      by_cases hil : i < len
      · obtain ⟨cs', hc, ht⟩ := hi i (by omega)
        obtain ⟨u, v, c0, c1, w0, w1⟩ := pair_bytes Try.underlying28 (by kernel_rfl) Try.underlying5 hc ht
        exact ⟨(u, v), fun _ => ⟨c0, c1, bounds_u8 w0, bounds_u8 w1⟩⟩
      · exact ⟨(0, 0), fun h => absurd h hil⟩
    obtain ⟨cs, hcs⟩ : ∃ cs : Nat → Int × Int, ∀ i, i < len → W.cell? (x.add (i * 2)) = some (.int .u8 (cs i).1) ∧ W.cell? ((x.add (i * 2)).add 1) = some (.int .u8 (cs i).2) ∧ (0 ≤ (cs i).1 ∧ (cs i).1 ≤ 255) ∧ 0 ≤ (cs i).2 ∧ (cs i).2 ≤ 255 := ⟨fun i => (key i).choose, fun i => (key i).choose_spec⟩
    refine ⟨cs, by omega, fun hp => ?_⟩
    obtain ⟨b, off, spot⟩ := x
    have hspot : spot = none := by simpa [Addr.add] using World.cell?_spot (hcs 0 hp).1
    subst hspot
    refine ⟨b, off, rfl, ?_, fun i hil => ?_⟩
    · have := block_lt_of_cell (hcs 0 hp).1
      simpa [Addr.add] using this
    · obtain ⟨c0, c1, c2⟩ := hcs i hil
      rw [add_plain] at c0 c1
      rw [add_plain] at c1
      exact ⟨c0, c1, c2⟩
/-- A slice of triples of bytes: it reads as zs. -/
def IsTriples (w : World) (a : Option Addr) (len : Nat) (zs : Nat → Int × Int × Int) : Prop :=
  len ≤ maxLen ∧ (0 < len → ∃ b off, a = some ⟨b, off, none⟩ ∧ b < w.heap.size ∧ ∀ i, i < len →
    w.cell? ⟨b, off + i * 3, none⟩ = some (.int .u8 (zs i).1) ∧ w.cell? ⟨b, off + i * 3 + 1, none⟩ = some (.int .u8 (zs i).2.1) ∧ w.cell? ⟨b, off + i * 3 + 2, none⟩ = some (.int .u8 (zs i).2.2) ∧
    (0 ≤ (zs i).1 ∧ (zs i).1 ≤ 255) ∧ (0 ≤ (zs i).2.1 ∧ (zs i).2.1 ≤ 255) ∧ 0 ≤ (zs i).2.2 ∧ (zs i).2.2 ≤ 255)
theorem open_triples {H : Type} {enc : TypeId × Value → H} {W : World} {base : Nat} {spare : Nat → Bool} {held : Bool} {a : Option Addr} {len cap : Nat} {d : DataW H} {p : List MemPlace}
    (h : DataW.Trod enc Try.prog W base spare held 67 (.slice a len cap) d p) : ∃ zs, IsTriples W a len zs := by
  obtain ⟨fuel, hf⟩ := h
  rcases open_slice Try.underlying67 hf with ⟨hcs, _⟩ | ⟨x, l, c, m, n, D, Pl, hcs, _, hl, hm, hmm, _, hi⟩
  · simp [Value.cells] at hcs
    obtain ⟨rfl, rfl, rfl⟩ := hcs
    exact ⟨fun _ => (0, 0, 0), by omega, fun h => absurd h (by omega)⟩
  · simp [Value.cells] at hcs
    obtain ⟨rfl, rfl, rfl⟩ := hcs
    have hlm : len ≤ m := by rw [hmm]; split <;> omega
    have h3 : Try.prog.cellsOf 68 = 3 := by kernel_rfl
    rw [h3] at hi
    have key : ∀ i, ∃ c : Int × Int × Int, i < len → W.cell? (x.add (i * 3)) = some (.int .u8 c.1) ∧ W.cell? ((x.add (i * 3)).add 1) = some (.int .u8 c.2.1) ∧ W.cell? ((x.add (i * 3)).add 2) = some (.int .u8 c.2.2) ∧ (0 ≤ c.1 ∧ c.1 ≤ 255) ∧ (0 ≤ c.2.1 ∧ c.2.1 ≤ 255) ∧ 0 ≤ c.2.2 ∧ c.2.2 ≤ 255 := by
      intro i
      by_cases hil : i < len
      · obtain ⟨cs', hc, ht⟩ := hi i (by omega)
        obtain ⟨u, v, z, c0, c1, c2, w0, w1, w2⟩ := triple_bytes Try.underlying68 (by kernel_rfl) Try.underlying5 hc ht
        exact ⟨(u, v, z), fun _ => ⟨c0, c1, c2, bounds_u8 w0, bounds_u8 w1, bounds_u8 w2⟩⟩
      · exact ⟨(0, 0, 0), fun h => absurd h hil⟩
    obtain ⟨cs, hcs⟩ : ∃ cs : Nat → Int × Int × Int, ∀ i, i < len → W.cell? (x.add (i * 3)) = some (.int .u8 (cs i).1) ∧ W.cell? ((x.add (i * 3)).add 1) = some (.int .u8 (cs i).2.1) ∧ W.cell? ((x.add (i * 3)).add 2) = some (.int .u8 (cs i).2.2) ∧ (0 ≤ (cs i).1 ∧ (cs i).1 ≤ 255) ∧ (0 ≤ (cs i).2.1 ∧ (cs i).2.1 ≤ 255) ∧ 0 ≤ (cs i).2.2 ∧ (cs i).2.2 ≤ 255 := ⟨fun i => (key i).choose, fun i => (key i).choose_spec⟩
    refine ⟨cs, by omega, fun hp => ?_⟩
    obtain ⟨b, off, spot⟩ := x
    have hspot : spot = none := by simpa [Addr.add] using World.cell?_spot (hcs 0 hp).1
    subst hspot
    refine ⟨b, off, rfl, ?_, fun i hil => ?_⟩
    · have := block_lt_of_cell (hcs 0 hp).1
      simpa [Addr.add] using this
    · obtain ⟨c0, c1, c2, c3⟩ := hcs i hil
      rw [add_plain] at c0 c1 c2
      rw [add_plain] at c1 c2
      exact ⟨c0, c1, c2, c3⟩
end Go.Proofs.Ytncjeleabpodaaa
