/- Law 14's generated calls, and spans, that came in. -/
import Derived.Test.YtncjeleabpodaaaBlk
import Derived.Test.YtncjeleabpodaaaRgKit
import Derived.Deep.Slices
import Derived.Deep.Fields
import Derived.ChangeSame
import Derived.Lib.SmallJoins
namespace Go.Proofs.Ytncjeleabpodaaa
open Go.ChangeShapes Go.WideShapes Go.ChangeAt Go.RowKit Go.Deep
def I64 (n : Int) : Prop := -9223372036854775808 ≤ n ∧ n ≤ 9223372036854775807
section
variable {H : Type} {enc : TypeId × Value → H} {w : World} {base : Nat} {spare : Nat → Bool} {held : Bool}
set_option maxRecDepth 100000 in
theorem span_cells {n : Nat} {c0 c1 : Value} {x : DataW H × List MemPlace} (ht : DataW.trod enc Try.prog w base spare held n 51 [c0, c1] = some x) :
    ∃ a b, c0 = .int .i64 a ∧ c1 = .int .i64 b ∧ I64 a ∧ I64 b := by
  obtain ⟨ys, m, _, _, _, hyl, hf⟩ := DataW.trod_struct Try.underlying51 ht
  match ys, hyl with
  | [y0, y1], _ =>
    have g0 : DataW.trod enc Try.prog w base spare held m 3 (List.take (Try.prog.cellsOf 3) (List.drop 0 [c0, c1])) = [y0, y1][0]? := hf 0 _ rfl
    have g1 : DataW.trod enc Try.prog w base spare held m 3 (List.take (Try.prog.cellsOf 3) (List.drop 1 [c0, c1])) = [y0, y1][1]? := hf 1 _ rfl
    have hc : Try.prog.cellsOf 3 = 1 := by kernel_rfl
    rw [hc] at g0 g1
    obtain ⟨a, ha, _, wa⟩ := DataW.trod_int Try.underlying3 g0
    obtain ⟨b, hb, _, wb⟩ := DataW.trod_int Try.underlying3 g1
    exact ⟨a, b, by simpa using ha, by simpa using hb, bounds_i64 wa, bounds_i64 wb⟩
set_option maxRecDepth 100000 in
theorem call_cells {n : Nat} {p : Addr} {cs : List Value} {x : DataW H × List MemPlace} (hc : w.cells? base p 7 = some cs) (ht : DataW.trod enc Try.prog w base spare held n 89 cs = some x) :
    ∃ (k m a1 a2 b1 b2 : Int) (o : Bool), w.cell? p = some (.int .i64 k) ∧ w.cell? (p.add 1) = some (.int .i64 m) ∧ w.cell? (p.add 2) = some (.int .i64 a1) ∧ w.cell? (p.add 3) = some (.int .i64 a2) ∧ w.cell? (p.add 4) = some (.int .i64 b1) ∧ w.cell? (p.add 5) = some (.int .i64 b2) ∧ w.cell? (p.add 6) = some (.bool o) ∧
      I64 k ∧ I64 m ∧ I64 a1 ∧ I64 a2 ∧ I64 b1 ∧ I64 b2 := by
  obtain ⟨ys, m, _, _, _, hyl, hf⟩ := DataW.trod_struct Try.underlying89 ht
  obtain ⟨_, hcl, hat⟩ := World.cells?_some hc
  match cs, hcl with
  | [c0, c1, c2, c3, c4, c5, c6], _ =>
    match ys, hyl with
    | [y0, y1, y2, y3, y4], _ =>
      have g0 : DataW.trod enc Try.prog w base spare held m 3 (List.take (Try.prog.cellsOf 3) (List.drop 0 [c0, c1, c2, c3, c4, c5, c6])) = [y0, y1, y2, y3, y4][0]? := hf 0 _ rfl
      have g1 : DataW.trod enc Try.prog w base spare held m 3 (List.take (Try.prog.cellsOf 3) (List.drop 1 [c0, c1, c2, c3, c4, c5, c6])) = [y0, y1, y2, y3, y4][1]? := hf 1 _ rfl
      have g2 : DataW.trod enc Try.prog w base spare held m 51 (List.take (Try.prog.cellsOf 51) (List.drop 2 [c0, c1, c2, c3, c4, c5, c6])) = [y0, y1, y2, y3, y4][2]? := hf 2 _ rfl
      have g3 : DataW.trod enc Try.prog w base spare held m 51 (List.take (Try.prog.cellsOf 51) (List.drop 4 [c0, c1, c2, c3, c4, c5, c6])) = [y0, y1, y2, y3, y4][3]? := hf 3 _ rfl
      have g4 : DataW.trod enc Try.prog w base spare held m 4 (List.take (Try.prog.cellsOf 4) (List.drop 6 [c0, c1, c2, c3, c4, c5, c6])) = [y0, y1, y2, y3, y4][4]? := hf 4 _ rfl
      have h1 : Try.prog.cellsOf 3 = 1 := by kernel_rfl
      have h2 : Try.prog.cellsOf 51 = 2 := by kernel_rfl
      have h3 : Try.prog.cellsOf 4 = 1 := by kernel_rfl
      rw [h1] at g0 g1
      rw [h2] at g2 g3
      rw [h3] at g4
      obtain ⟨a, ha, _, wa⟩ := DataW.trod_int Try.underlying3 g0
      obtain ⟨b, hb, _, wb⟩ := DataW.trod_int Try.underlying3 g1
      obtain ⟨a1, a2, e2, e3, w2, w3⟩ := span_cells (c0 := c2) (c1 := c3) g2
      obtain ⟨b1, b2, e4, e5, w4, w5⟩ := span_cells (c0 := c4) (c1 := c5) g3
      obtain ⟨o, ho, _⟩ := DataW.trod_bool Try.underlying4 g4
      have e0 : c0 = .int .i64 a := by simpa using ha
      have e1 : c1 = .int .i64 b := by simpa using hb
      have e6 : c6 = .bool o := by simpa using ho
      have k0 := hat 0 (by omega)
      have k1 := hat 1 (by omega)
      have k2 := hat 2 (by omega)
      have k3 := hat 3 (by omega)
      have k4 := hat 4 (by omega)
      have k5 := hat 5 (by omega)
      have k6 := hat 6 (by omega)
      refine ⟨a, b, a1, a2, b1, b2, o, ?_, ?_, ?_, ?_, ?_, ?_, ?_, bounds_i64 wa, bounds_i64 wb, w2, w3, w4, w5⟩
      · rw [show p = p.add 0 from rfl, k0, e0]; rfl
      · rw [k1, e1]; rfl
      · rw [k2, e2]; rfl
      · rw [k3, e3]; rfl
      · rw [k4, e4]; rfl
      · rw [k5, e5]; rfl
      · rw [k6, e6]; rfl
end
/-- One call: its kind, its number, its two spans, its mark. -/
structure Cl where
  kind : Int
  n : Int
  a : Sp
  b : Sp
  odd : Bool
def Cl.At (W : World) (b off : Nat) (c : Cl) : Prop :=
  W.cell? ⟨b, off, none⟩ = some (.int .i64 c.kind) ∧ W.cell? ⟨b, off + 1, none⟩ = some (.int .i64 c.n) ∧ W.cell? ⟨b, off + 2, none⟩ = some (.int .i64 c.a.1) ∧ W.cell? ⟨b, off + 3, none⟩ = some (.int .i64 c.a.2) ∧ W.cell? ⟨b, off + 4, none⟩ = some (.int .i64 c.b.1) ∧ W.cell? ⟨b, off + 5, none⟩ = some (.int .i64 c.b.2) ∧ W.cell? ⟨b, off + 6, none⟩ = some (.bool c.odd) ∧
    I64 c.kind ∧ I64 c.n ∧ I64 c.a.1 ∧ I64 c.a.2 ∧ I64 c.b.1 ∧ I64 c.b.2
theorem Cl.At.below {W W' : World} {b off n : Nat} {c : Cl} (h : Cl.At W b off c) (hb : Below n W W') (hlt : b < n) : Cl.At W' b off c := by
  obtain ⟨h0, h1, h2, h3, h4, h5, h6, h7⟩ := h
  exact ⟨(hb.cell (p := ⟨b, _, none⟩) hlt).trans h0, (hb.cell (p := ⟨b, _, none⟩) hlt).trans h1, (hb.cell (p := ⟨b, _, none⟩) hlt).trans h2, (hb.cell (p := ⟨b, _, none⟩) hlt).trans h3, (hb.cell (p := ⟨b, _, none⟩) hlt).trans h4, (hb.cell (p := ⟨b, _, none⟩) hlt).trans h5, (hb.cell (p := ⟨b, _, none⟩) hlt).trans h6, h7⟩
/-- A slice of calls: it reads as cs. -/
def IsCalls (w : World) (a : Option Addr) (len : Nat) (cs : Nat → Cl) : Prop :=
  len ≤ maxLen ∧ (0 < len → ∃ b off, a = some ⟨b, off, none⟩ ∧ b < w.heap.size ∧ ∀ i, i < len → Cl.At w b (off + i * 7) (cs i))
theorem IsCalls.below {w w' : World} {a : Option Addr} {len : Nat} {cs : Nat → Cl} (h : IsCalls w a len cs) (hb : Below w.heap.size w w') : IsCalls w' a len cs := by
  refine ⟨h.1, fun hp => ?_⟩
  obtain ⟨b, off, rfl, hlt, hc⟩ := h.2 hp
  exact ⟨b, off, rfl, Nat.lt_of_lt_of_le hlt hb.size, fun i hi => (hc i hi).below hb hlt⟩
theorem open_calls {H : Type} {enc : TypeId × Value → H} {W : World} {base : Nat} {spare : Nat → Bool} {held : Bool} {a : Option Addr} {len cap : Nat} {d : DataW H} {p : List MemPlace}
    (h : DataW.Trod enc Try.prog W base spare held 41 (.slice a len cap) d p) : ∃ cs, IsCalls W a len cs := by
  obtain ⟨fuel, hf⟩ := h
  rcases open_slice Try.underlying41 hf with ⟨hcs, _⟩ | ⟨x, l, c, m, n, D, Pl, hcs, _, hl, hm, hmm, _, hi⟩
  · simp [Value.cells] at hcs
    obtain ⟨rfl, rfl, rfl⟩ := hcs
    exact ⟨fun _ => ⟨0, 0, (0, 0), (0, 0), false⟩, by omega, fun h => absurd h (by omega)⟩
  · simp [Value.cells] at hcs
    obtain ⟨rfl, rfl, rfl⟩ := hcs
    have hlm : len ≤ m := by rw [hmm]; split <;> omega
    have h3 : Try.prog.cellsOf 89 = 7 := by kernel_rfl
    rw [h3] at hi
    have hsp : 0 < len → x.spot = none := fun hp => by
      obtain ⟨cs', hc, ht⟩ := hi 0 (by omega)
      obtain ⟨k, m2, a1, a2, b1, b2, o, c0, -⟩ := call_cells hc ht
      simpa [Addr.add] using World.cell?_spot c0
    have key : ∀ i, ∃ c : Cl, i < len → (x.spot = none ∧ x.block < W.heap.size) ∧ Cl.At W x.block (x.off + i * 7) c := by
      intro i
      by_cases hil : i < len
      · obtain ⟨cs', hc, ht⟩ := hi i (by omega)
        obtain ⟨k, m2, a1, a2, b1, b2, o, c0, c1, c2, c3, c4, c5, c6, w0, w1, w2, w3, w4, w5⟩ := call_cells hc ht
        refine ⟨⟨k, m2, (a1, a2), (b1, b2), o⟩, fun _ => ?_⟩
        obtain ⟨b, off, spot⟩ := x
        have hspot : spot = none := hsp (by omega)
        subst hspot
        have hlt := block_lt_of_cell c0
        rw [add_plain] at c0 c1 c2 c3 c4 c5 c6 hlt
        rw [add_plain] at c1 c2 c3 c4 c5 c6
        exact ⟨⟨rfl, hlt⟩, c0, c1, c2, c3, c4, c5, c6, w0, w1, w2, w3, w4, w5⟩
      · exact ⟨⟨0, 0, (0, 0), (0, 0), false⟩, fun h => absurd h hil⟩
    obtain ⟨cs, hcs⟩ : ∃ cs : Nat → Cl, ∀ i, i < len → (x.spot = none ∧ x.block < W.heap.size) ∧ Cl.At W x.block (x.off + i * 7) (cs i) := ⟨fun i => (key i).choose, fun i => (key i).choose_spec⟩
    refine ⟨cs, by omega, fun hp => ?_⟩
    obtain ⟨b, off, spot⟩ := x
    obtain ⟨⟨hs, hlt⟩, -⟩ := hcs 0 hp
    dsimp only at hs
    subst hs
    exact ⟨b, off, rfl, hlt, fun i hil => (hcs i hil).2⟩
/-- A slice of spans that came in: it reads as zs. -/
def IsSpans (w : World) (a : Option Addr) (len : Nat) (zs : Nat → Sp) : Prop :=
  len ≤ maxLen ∧ (0 < len → ∃ b off, a = some ⟨b, off, none⟩ ∧ b < w.heap.size ∧ ∀ i, i < len → w.cell? ⟨b, off + i * 2, none⟩ = some (.int .i64 (zs i).1) ∧ w.cell? ⟨b, off + i * 2 + 1, none⟩ = some (.int .i64 (zs i).2) ∧ I64 (zs i).1 ∧ I64 (zs i).2)
theorem open_spans {H : Type} {enc : TypeId × Value → H} {W : World} {base : Nat} {spare : Nat → Bool} {held : Bool} {a : Option Addr} {len cap : Nat} {d : DataW H} {p : List MemPlace}
    (h : DataW.Trod enc Try.prog W base spare held 29 (.slice a len cap) d p) : ∃ zs, IsSpans W a len zs := by
  obtain ⟨fuel, hf⟩ := h
  rcases open_slice Try.underlying29 hf with ⟨hcs, _⟩ | ⟨x, l, c, m, n, D, Pl, hcs, _, hl, hm, hmm, _, hi⟩
  · simp [Value.cells] at hcs
    obtain ⟨rfl, rfl, rfl⟩ := hcs
    exact ⟨fun _ => (0, 0), by omega, fun h => absurd h (by omega)⟩
  · simp [Value.cells] at hcs
    obtain ⟨rfl, rfl, rfl⟩ := hcs
    have hlm : len ≤ m := by rw [hmm]; split <;> omega
    have h3 : Try.prog.cellsOf 51 = 2 := by kernel_rfl
    rw [h3] at hi
    have hsp : 0 < len → x.spot = none := fun hp => by
      obtain ⟨cs', hc, ht⟩ := hi 0 (by omega)
      obtain ⟨_, hcl, hat⟩ := World.cells?_some hc
      have k0 := hat 0 (by omega)
      match cs', hcl, ht with
      | [c0, c1], _, ht =>
        have d0 : W.cell? (x.add (0 * 2)) = some c0 := by rw [show x.add (0 * 2) = (x.add (0 * 2)).add 0 from rfl, k0]; rfl
        simpa [Addr.add] using World.cell?_spot d0
    have key : ∀ i, ∃ c : Sp, i < len → (x.spot = none ∧ x.block < W.heap.size) ∧ W.cell? ⟨x.block, x.off + i * 2, none⟩ = some (.int .i64 c.1) ∧ W.cell? ⟨x.block, x.off + i * 2 + 1, none⟩ = some (.int .i64 c.2) ∧ I64 c.1 ∧ I64 c.2 := by
      intro i
      by_cases hil : i < len
      · obtain ⟨cs', hc, ht⟩ := hi i (by omega)
        obtain ⟨_, hcl, hat⟩ := World.cells?_some hc
        match cs', hcl, hat, ht with
        | [c0, c1], _, hat, ht =>
          obtain ⟨a1, a2, e0, e1, w0, w1⟩ := span_cells ht
          have k0 := hat 0 (by omega)
          have k1 := hat 1 (by omega)
          subst e0
          subst e1
          refine ⟨(a1, a2), fun _ => ?_⟩
          have d0 : W.cell? (x.add (i * 2)) = some (.int .i64 a1) := by rw [show x.add (i * 2) = (x.add (i * 2)).add 0 from rfl, k0]; rfl
          have d1 : W.cell? ((x.add (i * 2)).add 1) = some (.int .i64 a2) := by rw [k1]; rfl
          obtain ⟨b, off, spot⟩ := x
          have hspot : spot = none := hsp (by omega)
          subst hspot
          have hlt := block_lt_of_cell d0
          rw [add_plain] at d0 d1 hlt
          rw [add_plain] at d1
          exact ⟨⟨rfl, hlt⟩, d0, d1, w0, w1⟩
      · exact ⟨(0, 0), fun h => absurd h hil⟩
    obtain ⟨cs, hcs⟩ : ∃ cs : Nat → Sp, ∀ i, i < len → (x.spot = none ∧ x.block < W.heap.size) ∧ W.cell? ⟨x.block, x.off + i * 2, none⟩ = some (.int .i64 (cs i).1) ∧ W.cell? ⟨x.block, x.off + i * 2 + 1, none⟩ = some (.int .i64 (cs i).2) ∧ I64 (cs i).1 ∧ I64 (cs i).2 := ⟨fun i => (key i).choose, fun i => (key i).choose_spec⟩
    refine ⟨cs, by omega, fun hp => ?_⟩
    obtain ⟨b, off, spot⟩ := x
    obtain ⟨⟨hs, hlt⟩, -⟩ := hcs 0 hp
    dsimp only at hs
    subst hs
    exact ⟨b, off, rfl, hlt, fun i hil => (hcs i hil).2⟩
set_option maxRecDepth 100000 in
/-- A span that came in. -/
theorem open_span {H : Type} {enc : TypeId × Value → H} {W : World} {base : Nat} {spare : Nat → Bool} {held : Bool} {r : Reach} {b0 : Nat} {v : Value} {d : DataW H} {p : List MemPlace}
    (hv : Value.okWide Try.prog W r b0 51 v) (h : DataW.Trod enc Try.prog W base spare held 51 v d p) :
    ∃ (x1 x2 : Int), v = .agg #[.int .i64 x1, .int .i64 x2] ∧ I64 x1 ∧ I64 x2 := by
  have hC : Try.prog.cellsOf 51 = 2 := by kernel_rfl
  have hu := Try.underlying51
  have k4 := Joins.open_agg2 (P := Try.prog) hu (by kernel_rfl) hC hv h
  obtain ⟨v0, v1, y0, y1, n, rfl, _, _, h0, h1⟩ := k4
  obtain ⟨t, ht, _, wt⟩ := DataW.trod_int Try.underlying3 h0
  obtain ⟨f, hf, _, wf⟩ := DataW.trod_int Try.underlying3 h1
  simp only [List.cons.injEq, and_true] at ht hf
  subst ht hf
  exact ⟨t, f, rfl, bounds_i64 wt, bounds_i64 wf⟩
end Go.Proofs.Ytncjeleabpodaaa
