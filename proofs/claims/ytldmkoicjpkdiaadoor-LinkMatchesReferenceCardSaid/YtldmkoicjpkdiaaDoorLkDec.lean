/- link.Decode. -/
import Derived.Test.YtldmkoicjpkdiaaDoorLkDecM
namespace Go.Proofs.YtldmkoicjpkdiaaDoor
open Go.RowKit Go.Shelf
attribute [local go_sem] Oper.semAt_some
/-- What Decode returns. -/
def decRes (s : ByteArray) : Value :=
  if decB s.data.toList then .tuple #[.agg #[.int .i64 (fld0 s.data.toList : Nat), .int .i64 (fld1 s.data.toList : Nat), .int .i64 (fld2 s.data.toList : Nat), .string (s.extract 7 (7 + fld3 s.data.toList))], .int .i64 0]
  else .tuple #[.agg #[.int .i64 0, .int .i64 0, .int .i64 0, .string ⟨#[]⟩], .int .i64 40]
theorem decK_cells {N : Nat} {s : ByteArray} {W : World} (h : DecK N s W) : ∃ v0 v1 v2 v3, (W.cell? ⟨N, 0, none⟩ = some v0 ∧ W.frozen? ⟨N, 0, none⟩ = false) ∧ (W.cell? ⟨N, 1, none⟩ = some v1 ∧ W.frozen? ⟨N, 1, none⟩ = false) ∧ (W.cell? ⟨N, 2, none⟩ = some v2 ∧ W.frozen? ⟨N, 2, none⟩ = false) ∧ (W.cell? ⟨N, 3, none⟩ = some v3 ∧ W.frozen? ⟨N, 3, none⟩ = false) := by
  obtain ⟨v0, h0⟩ := h.2 0 (by omega)
  obtain ⟨v1, h1⟩ := h.2 1 (by omega)
  obtain ⟨v2, h2⟩ := h.2 2 (by omega)
  obtain ⟨v3, h3⟩ := h.2 3 (by omega)
  exact ⟨v0, v1, v2, v3, h0, h1, h2, h3⟩
theorem piece_z (s : ByteArray) (k : Nat) (h : 7 + k ≤ s.size) (W : World) : Calls Tryd.prog 29 #[.string s, .int .i64 7, .int .i64 (7 + (k : Int))] W fun e w' => e = .returned (.string (s.extract 7 (7 + k))) ∧ W = w' := by
  have := piece_any s 7 (7 + k) (by omega) h W
  rw [Int.natCast_add] at this
  exact this
theorem piece_0 (s : ByteArray) (k : Nat) (h : 7 + k ≤ s.size) (W : World) : Calls Tryd.prog 29 #[.string s, .int .i64 0, .int .i64 (7 + (k : Int))] W fun e w' => e = .returned (.string (s.extract 0 (7 + k))) ∧ W = w' := by
  have := piece_any s 0 (7 + k) (by omega) h W
  rw [Int.natCast_add] at this
  exact this
theorem number_z (s : ByteArray) (hs : s.size ≤ 9223372036854775807) (k : Nat) (h : 7 + k + 4 ≤ s.size) (W : World) :
    Calls Tryd.prog 30 #[.string s, .int .i64 (7 + (k : Int)), .int .i64 4] W fun e w' => e = .returned (.tuple #[.int .i64 (unbe ((s.data.toList.drop (7 + k)).take 4) : Nat), .nilIface]) ∧ Below W.heap.size W w' := by
  have := number_yes s hs (7 + k) 4 (by omega) (by omega) h W
  rw [Int.natCast_add] at this
  exact this
/-- What the rest of Decode keeps. -/
def DecC (N D : Nat) (s : ByteArray) (a : Addr) (w W : World) : Prop :=
  ∃ v0 v1 v2 v3, (W.cell? ⟨N, 0, none⟩ = some v0 ∧ W.frozen? ⟨N, 0, none⟩ = false) ∧ (W.cell? ⟨N, 1, none⟩ = some v1 ∧ W.frozen? ⟨N, 1, none⟩ = false) ∧ (W.cell? ⟨N, 2, none⟩ = some v2 ∧ W.frozen? ⟨N, 2, none⟩ = false) ∧ (W.cell? ⟨N, 3, none⟩ = some v3 ∧ W.frozen? ⟨N, 3, none⟩ = false) ∧
    W.cell? ⟨N + 1, 0, none⟩ = some (.string s) ∧ W.heap[D]? = some (.deferred (some [])) ∧ ErrS a W ∧ Below w.heap.size w W
theorem DecC.below {N D : Nat} {s : ByteArray} {a : Addr} {w W W' : World} (h : DecC N D s a w W) (hb : Below W.heap.size W W') : DecC N D s a w W' := by
  obtain ⟨v0, v1, v2, v3, ⟨r0, q0⟩, ⟨r1, q1⟩, ⟨r2, q2⟩, ⟨r3, q3⟩, hr, hd, hE, hB⟩ := h
  have l0 : N < W.heap.size := block_lt_of_cell r0
  have l1 : N + 1 < W.heap.size := block_lt_of_cell hr
  refine ⟨v0, v1, v2, v3, ⟨(hb.cell (p := ⟨N, 0, none⟩) l0).trans r0, (hb.frozen (p := ⟨N, 0, none⟩) l0).trans q0⟩, ⟨(hb.cell (p := ⟨N, 1, none⟩) l0).trans r1, (hb.frozen (p := ⟨N, 1, none⟩) l0).trans q1⟩, ⟨(hb.cell (p := ⟨N, 2, none⟩) l0).trans r2, (hb.frozen (p := ⟨N, 2, none⟩) l0).trans q2⟩, ⟨(hb.cell (p := ⟨N, 3, none⟩) l0).trans r3, (hb.frozen (p := ⟨N, 3, none⟩) l0).trans q3⟩, (hb.cell (p := ⟨N + 1, 0, none⟩) l1).trans hr, ?_, hE.below hb hE.2, hB.trans (hb.mono hB.size)⟩
  rw [hb.block D (Array.getElem?_eq_some_iff.1 hd).1]
  exact hd
theorem flds_some {l : List UInt8} {ns : List Nat} (h : flds l = ns.map some) : 7 ≤ l.length ∧ ns = [fld0 l, fld1 l, fld2 l, fld3 l] := by
  unfold flds fo at h
  by_cases h7 : 7 ≤ l.length
  · rw [if_pos (by omega), if_pos (by omega), if_pos (by omega), if_pos (by omega)] at h
    refine ⟨h7, ?_⟩
    match ns, h with
    | [a, b, c, d], h =>
      simp at h
      obtain ⟨h1, h2, h3, h4⟩ := h
      unfold fld0 fld1 fld2 fld3
      rw [← h1, ← h2, ← h3, ← h4]
  · rw [if_neg (show ¬ 5 + 2 ≤ l.length by omega)] at h
    have hm : (none : Option Nat) ∈ ns.map some := by rw [← h]; simp
    simp at hm
theorem fld3_le (l : List UInt8) : fld3 l ≤ 65535 := by
  unfold fld3
  have h := unbe_lt ((l.drop 5).take 2)
  have h2 : 256 ^ ((l.drop 5).take 2).length ≤ 256 ^ 2 := Nat.pow_le_pow_right (by omega) (by rw [List.length_take]; omega)
  omega
theorem decRes_no {s : ByteArray} (h : decB s.data.toList = false) : decRes s = .tuple #[.agg #[.int .i64 0, .int .i64 0, .int .i64 0, .string ⟨#[]⟩], .int .i64 40] := by unfold decRes; rw [h]; rfl
theorem decRes_yes {s : ByteArray} (h : decB s.data.toList = true) : decRes s = .tuple #[.agg #[.int .i64 (fld0 s.data.toList : Nat), .int .i64 (fld1 s.data.toList : Nat), .int .i64 (fld2 s.data.toList : Nat), .string (s.extract 7 (7 + fld3 s.data.toList))], .int .i64 0] := by unfold decRes; rw [h]; rfl
theorem flds_stop {l : List UInt8} {ns : List Nat} (h : ns.map some ++ [none] <+: flds l) : ns.length ≤ 3 ∧ l.length < 7 := by
  refine ⟨?_, ?_⟩
  · have := h.length_le
    rw [List.length_append, List.length_map] at this
    have e : (flds l).length = 4 := rfl
    rw [e] at this
    simp at this
    omega
  · rcases Nat.lt_or_ge l.length 7 with h7 | h7
    · exact h7
    · have hm : (none : Option Nat) ∈ flds l := h.subset (by simp)
      unfold flds fo at hm
      rw [if_pos (by omega), if_pos (by omega), if_pos (by omega), if_pos (by omega)] at hm
      simp at hm
theorem fldAt_cells {B : Nat} {a b c d : Nat} {W : World} (h : FldAt B [a, b, c, d] W) :
    W.cell? ⟨B, 0, none⟩ = some (.int .i64 (a : Int)) ∧ W.cell? ⟨B, 1, none⟩ = some (.int .i64 (b : Int)) ∧ W.cell? ⟨B, 2, none⟩ = some (.int .i64 (c : Int)) ∧ W.cell? ⟨B, 3, none⟩ = some (.int .i64 (d : Int)) ∧ W.cell? ⟨B + 1, 0, none⟩ = some (.int .i64 4) :=
  ⟨(h.1 0 (by omega)).1, (h.1 1 (by omega)).1, (h.1 2 (by omega)).1, (h.1 3 (by omega)).1, h.2.1⟩
/-- The result's four cells, stored. -/
def set4 (W : World) (N : Nat) (a b c : Int) (t : ByteArray) : World :=
  (((W.setCell ⟨N, 0, none⟩ (.int .i64 a)).setCell ⟨N, 1, none⟩ (.int .i64 b)).setCell ⟨N, 2, none⟩ (.int .i64 c)).setCell ⟨N, 3, none⟩ (.string t)
theorem set4_cells {W : World} {N : Nat} (a b c : Int) (t : ByteArray) {v0 v1 v2 v3 : Value} (h0 : W.cell? ⟨N, 0, none⟩ = some v0) (h1 : W.cell? ⟨N, 1, none⟩ = some v1) (h2 : W.cell? ⟨N, 2, none⟩ = some v2) (h3 : W.cell? ⟨N, 3, none⟩ = some v3) :
    (set4 W N a b c t).cell? ⟨N, 0, none⟩ = some (.int .i64 a) ∧ (set4 W N a b c t).cell? ⟨N, 1, none⟩ = some (.int .i64 b) ∧ (set4 W N a b c t).cell? ⟨N, 2, none⟩ = some (.int .i64 c) ∧ (set4 W N a b c t).cell? ⟨N, 3, none⟩ = some (.string t) := by
  unfold set4
  refine ⟨?_, ?_, ?_, ?_⟩
  · rw [World.cell?_setCell_other _ _ _ _ (by simp), World.cell?_setCell_other _ _ _ _ (by simp), World.cell?_setCell_other _ _ _ _ (by simp)]; exact World.cell?_setCell_same _ _ _ h0
  · rw [World.cell?_setCell_other _ _ _ _ (by simp), World.cell?_setCell_other _ _ _ _ (by simp)]; exact World.cell?_setCell_same _ _ _ (by rw [World.cell?_setCell_other _ _ _ _ (by simp)]; exact h1)
  · rw [World.cell?_setCell_other _ _ _ _ (by simp)]; exact World.cell?_setCell_same _ _ _ (by rw [World.cell?_setCell_other _ _ _ _ (by simp), World.cell?_setCell_other _ _ _ _ (by simp)]; exact h2)
  · exact World.cell?_setCell_same _ _ _ (by rw [World.cell?_setCell_other _ _ _ _ (by simp), World.cell?_setCell_other _ _ _ _ (by simp), World.cell?_setCell_other _ _ _ _ (by simp)]; exact h3)
theorem set4_keeps (W : World) (N : Nat) (a b c : Int) (t : ByteArray) : KeepsOthers W (set4 W N a b c t) :=
  (((KeepsOthers.setCell _ _ _).trans (KeepsOthers.setCell _ _ _)).trans (KeepsOthers.setCell _ _ _)).trans (KeepsOthers.setCell _ _ _)
theorem dec_ret (n : Nat) (s : ByteArray) (w W : World) (D : Nat) (tm : Array Value) (a b c er : Int) (t : ByteArray) {v0 v1 v2 v3 : Value}
    (h0 : W.cell? ⟨w.heap.size, 0, none⟩ = some v0) (h1 : W.cell? ⟨w.heap.size, 1, none⟩ = some v1) (h2 : W.cell? ⟨w.heap.size, 2, none⟩ = some v2) (h3 : W.cell? ⟨w.heap.size, 3, none⟩ = some v3)
    (t2 : tm[2]?.getD undef = .pointer (some ⟨w.heap.size, 0, none⟩)) (t3 : tm[3]?.getD undef = .int .i64 er) (hD : W.heap[D]? = some (.deferred (some []))) (hDN : w.heap.size ≤ D) (hB : Below w.heap.size w W)
    (hR : decRes s = .tuple #[.agg #[.int .i64 a, .int .i64 b, .int .i64 c, .string t], .int .i64 er]) :
    Exit.noGoto (bodyPostM Fence.wide n Tryd.prog Tryd.f13 fun e W' => e = .returned (decRes s) ∧ Below w.heap.size w W') .ret { tmps := tm, defers := [{ target := .collected D, args := #[] }] } (set4 W w.heap.size a b c t) := by
  obtain ⟨k0, k1, k2, k3⟩ := set4_cells a b c t h0 h1 h2 h3
  have hD4 := (set4_keeps W w.heap.size a b c t).same D _ hD rfl
  have hB4 : Below w.heap.size w (set4 W w.heap.size a b c t) := (((hB.setCell (p := ⟨w.heap.size, 0, none⟩) (Nat.le_refl _) _).setCell (p := ⟨w.heap.size, 1, none⟩) (Nat.le_refl _) _).setCell (p := ⟨w.heap.size, 2, none⟩) (Nat.le_refl _) _).setCell (p := ⟨w.heap.size, 3, none⟩) (Nat.le_refl _) _
  generalize set4 W w.heap.size a b c t = W4 at *
  have ck : ∀ i v, W4.cell? ⟨w.heap.size, i, none⟩ = some v → (W4.putObj D (.deferred none)).cell? ⟨w.heap.size, i, none⟩ = some v := fun i v hv => cell_kept hv (grownBy_putObj' _ D (.deferred none)) (fun r e => by cases e; exact ⟨_, hD4, rfl⟩)
  have c0 := ck 0 _ k0
  have c1 := ck 1 _ k1
  have c2 := ck 2 _ k2
  have c3 := ck 3 _ k3
  rw [Exit.noGoto_ret]
  refine ⟨by simp, .inl ⟨_, _, rfl, run_takeDeferred hD4, ?_⟩⟩
  refine ⟨.tuple #[.agg #[.int .i64 a, .int .i64 b, .int .i64 c, .string t], .int .i64 er], ?_, by rw [hR], hB4.trans (belowK_b (w := w) (Nat.le_refl _) _ D _ _ (by omega) hD4 rfl rfl)⟩
  simp [results, Tryd.results13, go_sem, t2, t3, c0, c1, c2, c3]
set_option maxRecDepth 100000 in
set_option maxHeartbeats 4000000 in
theorem decode_in (n : Nat) (hn : 4 ≤ n) (s : ByteArray) (hs : s.size ≤ 1048576) (a : Addr) (w : World) (he : ErrS a w) :
    CallsIn Fence.wide n Tryd.prog 13 #[.string s] w fun e W' => e = .returned (decRes s) ∧ Below w.heap.size w W' := by
  have h1 : 1 ≤ n := by omega
  have hN0 := he.2
  have HE := Lib.hid he
  have HST := Lib.hid (decW_start w s)
  have HBX := Lib.hid (decW_box w s)
  have HSZ := Lib.hid (decW_size w s)
  clear he
  refine callsIn_of_wp_marks Tryd.func13 rfl trivial ?_ rfl
  simp only [Tryd.ntmps13, List.size_toArray, List.length_cons, List.length_nil, Nat.reduceAdd, Nat.reduceSub, Array.replicate_succ, Array.replicate_zero, List.push_toArray, List.append_toArray, List.nil_append, List.cons_append]
  refine wpIn_wide.2 ?_
  go_wp2_with fail
  go_step3
  go_wp2_with fail
  go_step3
  go_wp2_with fail
  refine (callsIn_wide.1 (fixed_in 4 s _)).mono ?_
  rintro e w' ⟨rfl, rfl⟩
  go_wp2_with fail
  refine (wpIn_wide (n := n)).1 ?_
  change Code.wpIn _ _ _ _ _ _ (decW w s)
  have hsz : (decW w s).heap.size = w.heap.size + 1 + 1 + 1 + 1 + 1 := HSZ.out
  have hE0 : ErrS a (decW w s) := HE.out.below HST.out.2 hN0
  refine wpIn_rangeFunc_ownF rfl h1 (gf := 39) (lb := #[.pointer (some ⟨w.heap.size + 1 + 1 + 1 + 1, 0, none⟩)]) rfl trivial (enters_of Tryd.func39 (by kernel_rfl) rfl)
    (α := Option Nat) (encs := fun x => #[.int .i64 (foN x), foE a x]) (Kp := fun W W' => W'.cell? ⟨w.heap.size + 1 + 1 + 1 + 1, 0, none⟩ = W.cell? ⟨w.heap.size + 1 + 1 + 1 + 1, 0, none⟩ ∧ Below w.heap.size W W') (S := fun ys => ys = flds s.data.toList) (Sp := fun pre => pre <+: flds s.data.toList) (N := 4)
    (fun l J Jx W hW hJ hJx hY h0 => fixed1_in (n - 1) (by omega) l (w.heap.size + 1 + 1 + 1 + 1) s (by omega) a w.heap.size J Jx (fun pre x W hj hl => by rw [foV_eq]; exact hY pre x W hj hl) W (fun pre A A' hA hg => hJ pre A A' none hA hg (fun r e => by cases e)) ((hW.cell (p := ⟨w.heap.size + 1 + 1 + 1 + 1, 0, none⟩) (by rw [hsz]; exact Nat.lt_succ_self _)).trans HBX.out) (hE0.below hW hE0.2) hN0 h0)
    (fun h k => ⟨k.1.trans h.1, h.2.trans k.2⟩) (fun W l o o' hl ho hc hw => ⟨World.cell?_of_block (World.putObj_heap_other (by rw [hsz] at hl; exact Nat.ne_of_lt (by show w.heap.size + 1 + 1 + 1 + 1 < l; omega))), belowK_b (w := w) (Nat.le_refl _) W l o o' (by omega) ho hc hw⟩) (Below.refl _ _) (fun _ => rfl)
    (decI w.heap.size s w) (decX w.heap.size s w)
    (fun p A A' row hs hg hr => ⟨⟨by obtain ⟨ns, e1, e2⟩ := hs.1.1; exact ⟨ns, e1, fldAt_own e2 hg (fun r e => (hr r e).2)⟩, decK_own hs.1.2 hg (fun r e => (hr r e).2)⟩, hs.2.grown hg hs.2.size (fun k e => by have := (hr k e).1; omega)⟩)
    (fun c p A A' row hs hg hr => ⟨⟨⟨hs.1.1.1, by obtain ⟨ns, e1, e2⟩ := hs.1.1.2; exact ⟨ns, e1, fldAt_own e2 hg (fun r e => (hr r e).2)⟩⟩, decK_own hs.1.2 hg (fun r e => (hr r e).2)⟩, hs.2.grown hg hs.2.size (fun k e => by have := (hr k e).1; omega)⟩)
    HST.out
    (fun x => { tmps := #[.string s, undef, .pointer (some ⟨w.heap.size, 0, none⟩), .int .i64 0, .pointer (some ⟨w.heap.size + 1, 0, none⟩), .pointer (some ⟨w.heap.size + 1 + 1, 0, none⟩), .pointer (some ⟨w.heap.size + 1 + 1 + 1, 0, none⟩), .int .i64 (foN x), foE a x, undef, undef, undef, undef, .string s, .agg #[.string s], .agg #[.string s], .func (.func 39) #[] #[.pointer (some ⟨w.heap.size + 1 + 1 + 1 + 1, 0, none⟩)], .int .i64 (foN x), foE a x, undef, undef, undef, undef, undef, undef, undef, undef, undef, undef, undef, undef, undef, undef, undef, undef, undef, undef, undef, undef, undef, undef, undef, undef, undef, undef, undef, undef, undef, undef, undef, undef, undef, undef, undef, undef, undef, undef, undef, undef, undef, undef, undef, undef, undef, undef, undef, undef, undef, undef, undef, undef, undef, undef, undef, undef, undef, undef, undef], defers := [] }) ?assign ?body ?done ?stop
  case assign =>
    intro l x W K hK
    gi_wp2
    exact hK
  case body =>
    rintro l pre x W ⟨⟨⟨ns, rfl, hF⟩, hK⟩, hB⟩ hlen
    rw [List.length_map] at hlen
    have hE := HE.out.below hB hN0
    have h0 := hE.1
    cases x with
    | none =>
      have e1 : foN none = 0 := rfl
      have e2 : foE a none = .iface 91 (.pointer (some a)) := rfl
      rw [e1, e2]
      clear e1 e2
      gi_wp2_with fail
      refine ⟨trivial, (fun _ => by omega), (CallsIn.inRound l (callsIn_wide.2 (is_same a _))).mono ?_⟩
      rintro e W1 ⟨rfl, rfl⟩
      gi_wp2
      exact ⟨KeepsOthers.refl _, ⟨⟨rfl, ns, rfl, hF⟩, hK⟩, hB⟩
    | some m =>
      have e1 : foN (some m) = (m : Int) := rfl
      have e2 : foE a (some m) = .nilIface := rfl
      rw [e1, e2]
      clear e1 e2
      gi_wp2_with fail
      refine ⟨trivial, (fun _ => by omega), (CallsIn.inRound l (callsIn_wide.2 (is_nil a _))).mono ?_⟩
      rintro e W1 ⟨rfl, rfl⟩
      have hc := hF.2.1
      have hcf := hF.2.2
      have hd := (hF.1 ns.length hlen).1
      have hdf := (hF.1 ns.length hlen).2
      have hnl : (ns.length : Int) < 4 := by omega
      have HF := Lib.hid (fldAt_push hF m)
      clear hF
      gi_wp2
      refine ⟨(KeepsOthers.setCell _ _ _).trans (KeepsOthers.setCell _ _ _), ⟨?_, ?_⟩, ⟨⟨ns ++ [m], by simp, HF.out⟩, decK_set (decK_set hK (by show w.heap.size + 1 < w.heap.size + 1 + 1; omega) _) (by show w.heap.size + 1 < w.heap.size + 1 + 1 + 1; omega) _⟩, (hB.setCell (p := ⟨w.heap.size + 1 + 1, ns.length, none⟩) (by show w.heap.size ≤ w.heap.size + 1 + 1; omega) _).setCell (p := ⟨w.heap.size + 1 + 1 + 1, 0, none⟩) (by show w.heap.size ≤ w.heap.size + 1 + 1 + 1; omega) _⟩
      · rw [World.cell?_setCell_other _ _ _ _ (by simp), World.cell?_setCell_other _ _ _ _ (by simp)]
      · exact ((Below.refl _ W).setCell (p := ⟨w.heap.size + 1 + 1, ns.length, none⟩) (by show w.heap.size ≤ w.heap.size + 1 + 1; omega) _).setCell (p := ⟨w.heap.size + 1 + 1 + 1, 0, none⟩) (by show w.heap.size ≤ w.heap.size + 1 + 1 + 1; omega) _
  case done =>
    rintro D ys W hD rfl ⟨⟨⟨ns, hns, hF⟩, hK⟩, hB⟩ hDf
    obtain ⟨hl7, rfl⟩ := flds_some hns
    have hE := HE.out.below hB hN0
    have HD := Lib.hid hDf
    obtain ⟨f0, f1, f2, f3, hc⟩ := fldAt_cells hF
    have hr := hK.1
    have HK := Lib.hid hK
    have hD' : w.heap.size ≤ D := by rw [hsz] at hD; omega
    have HDS := Lib.hid hD'
    clear hns hDf hD hF hK HST HBX HSZ hsz hE0 hD'
    have hf3 := fld3_le s.data.toList
    have hlz : s.data.toList.length = s.size := by rw [Array.length_toList]; rfl
    obtain ⟨v0, v1, v2, v3, ⟨r0, q0⟩, ⟨r1, q1⟩, ⟨r2, q2⟩, ⟨r3, q3⟩⟩ := decK_cells HK.out
    go_wp2_with fail
    refine (length_any s _).mono ?_
    rintro e W1 ⟨rfl, rfl⟩
    by_cases hlen : s.size = 11 + fld3 s.data.toList
    · have heq : ((s.size : Int) == 7 + (fld3 s.data.toList : Int) + 4) = true := by rw [beq_iff_eq]; omega
      have heq2 : ((s.size : Int) != 7 + (fld3 s.data.toList : Int) + 4) = false := by rw [bne_eq_false_iff_eq]; omega
      have hl11 : s.size ≤ 11 + fld3 s.data.toList := by omega
      have hl12 : 11 + fld3 s.data.toList ≤ s.size := by omega
      have HLEN := Lib.hid hlen
      have HLZ := Lib.hid hlz
      clear hlz hlen
      have HP := Lib.hid (piece_z s (fld3 s.data.toList) (by omega))
      have HP0 := Lib.hid (piece_0 s (fld3 s.data.toList) (by omega))
      have HNM := Lib.hid (number_z s (by omega) (fld3 s.data.toList) (by omega))
      have HXL := Lib.hid (show (s.extract 7 (7 + fld3 s.data.toList)).data.toList = (s.data.toList.drop 7).take (fld3 s.data.toList) from ext_toList s 7 _)
      have HX0 := Lib.hid (show (s.extract 0 (7 + fld3 s.data.toList)).data.toList = s.data.toList.take (7 + fld3 s.data.toList) by have := ext_toList s 0 (7 + fld3 s.data.toList); rw [Nat.zero_add] at this; exact this)
      have hxs : (s.extract 7 (7 + fld3 s.data.toList)).size ≤ 9223372036854775807 := by rw [ByteArray.size_extract]; omega
      have hxs0 : (s.extract 0 (7 + fld3 s.data.toList)).size ≤ maxLen := by rw [ByteArray.size_extract]; unfold maxLen; omega
      have HXS := Lib.hid hxs
      have HXS0 := Lib.hid hxs0
      have HDI := Lib.hid (decB_iff s.data.toList)
      have HDF := Lib.hid (show decF s.data.toList = ⟨fld0 s.data.toList, fld1 s.data.toList, fld2 s.data.toList, (s.data.toList.drop 7).take (fld3 s.data.toList)⟩ from rfl)
      have HRY := Lib.hid (fun h => decRes_yes (s := s) h)
      have HRN := Lib.hid (fun h => decRes_no (s := s) h)
      have HCL := Lib.hid (crc_lt (s.data.toList.take (7 + fld3 s.data.toList)))
      clear hxs hxs0
      generalize hff : fld3 s.data.toList = k3 at *
      generalize fld0 s.data.toList = k0 at *
      generalize fld1 s.data.toList = k1 at *
      generalize fld2 s.data.toList = k2 at *
      clear hff
      have HC : Hid (DecC w.heap.size D s a w W) := ⟨v0, v1, v2, v3, ⟨r0, q0⟩, ⟨r1, q1⟩, ⟨r2, q2⟩, ⟨r3, q3⟩, hr, HD.out, hE, hB⟩
      clear r0 r1 r2 r3 q0 q1 q2 q3 hE hB HD HK
      go_wp2_with fail
      go_region_held3 (fun w' => w'.cell? ⟨w.heap.size + 1 + 1, 0, none⟩ = some (.int .i64 (k0 : Int)) ∧ w'.cell? ⟨w.heap.size + 1 + 1, 1, none⟩ = some (.int .i64 (k1 : Int)) ∧ w'.cell? ⟨w.heap.size + 1 + 1, 2, none⟩ = some (.int .i64 (k2 : Int)) ∧ w'.cell? ⟨w.heap.size + 1, 0, none⟩ = some (.string s)) (go_keep) (first | (go_at_call 29; refine (HP.out _).mono ?_; rintro e w1 ⟨rfl, rfl⟩))
      all_goals
        go_wp2_with fail
        refine (valid_any (k0 : Int) (k1 : Int) (k2 : Int) (s.extract 7 (7 + k3)) HXS.out _).mono ?_
        rintro e W3 ⟨rfl, hb3⟩
        have hbx := ((Below.refl _ W).alloc (Nat.le_refl _) (.cells #[.int .i64 (k0 : Int), .int .i64 (k1 : Int), .int .i64 (k2 : Int), .string (s.extract 7 (7 + k3))] 23)).drew
        have hC3 := (HC.out.below hbx).below hb3
        have y : ∀ i v, (#[.int .i64 (k0 : Int), .int .i64 (k1 : Int), .int .i64 (k2 : Int), .string (s.extract 7 (7 + k3))] : Array Value)[i]? = some v → W3.cell? ⟨W.heap.size, i, none⟩ = some v := by
          intro i v hv
          refine (hb3.cell (p := ⟨W.heap.size, i, none⟩) (by simp)).trans ?_
          show (W.alloc _).cell? _ = _
          rw [cell_of_row _ _ _ _ _ _ (heap_alloc_new _ _)]
          exact hv
        have y0 := y 0 _ rfl
        have y1 := y 1 _ rfl
        have y2 := y 2 _ rfl
        have y3 := y 3 _ rfl
        have hWl : W.heap.size < W3.heap.size := by have := hb3.size; simp at this; omega
        clear hb3 hbx y HXS
        rw [HXL.out, ← HDF.out]
        by_cases hv : (decF s.data.toList).okB = true
        · rw [hv]
          obtain ⟨v0, v1, v2, v3, ⟨r0, q0⟩, ⟨r1, q1⟩, ⟨r2, q2⟩, ⟨r3, q3⟩, hr3, hd3, hE3, hB3⟩ := hC3
          have HC3 := Lib.hid (show DecC w.heap.size D s a w W3 from ⟨v0, v1, v2, v3, ⟨r0, q0⟩, ⟨r1, q1⟩, ⟨r2, q2⟩, ⟨r3, q3⟩, hr3, hd3, hE3, hB3⟩)
          have HVV := Lib.hid hv
          clear r0 r1 r2 r3 q0 q1 q2 q3 hd3 hE3 hB3 hv
          go_wp2_with fail
          refine (HNM.out _).mono ?_
          rintro e W4 ⟨rfl, hb4⟩
          have hC4 := HC3.out.below hb4
          replace y0 := (hb4.cell (p := ⟨W.heap.size, 0, none⟩) hWl).trans y0
          replace y1 := (hb4.cell (p := ⟨W.heap.size, 1, none⟩) hWl).trans y1
          replace y2 := (hb4.cell (p := ⟨W.heap.size, 2, none⟩) hWl).trans y2
          replace y3 := (hb4.cell (p := ⟨W.heap.size, 3, none⟩) hWl).trans y3
          replace hWl := Nat.lt_of_lt_of_le hWl hb4.size
          clear hb4 hr3 HC3
          obtain ⟨v0, v1, v2, v3, ⟨r0, q0⟩, ⟨r1, q1⟩, ⟨r2, q2⟩, ⟨r3, q3⟩, hr4, hd4, hE4, hB4⟩ := hC4
          have HC4 := Lib.hid (show DecC w.heap.size D s a w W4 from ⟨v0, v1, v2, v3, ⟨r0, q0⟩, ⟨r1, q1⟩, ⟨r2, q2⟩, ⟨r3, q3⟩, hr4, hd4, hE4, hB4⟩)
          have h04 := hE4.1
          clear r0 r1 r2 r3 q0 q1 q2 q3 hd4 hE4 hB4
          go_wp2_with fail
          refine (is_nil a _).mono ?_
          rintro e W5 ⟨rfl, rfl⟩
          go_wp2_with fail
          refine (HP0.out _).mono ?_
          rintro e W5 ⟨rfl, rfl⟩
          go_wp2_with fail
          refine (crc32_any _ _ HXS0.out).mono ?_
          rintro e W5 ⟨rfl, hb5⟩
          rw [HX0.out]
          have hC5 := HC4.out.below hb5
          replace y0 := (hb5.cell (p := ⟨W.heap.size, 0, none⟩) hWl).trans y0
          replace y1 := (hb5.cell (p := ⟨W.heap.size, 1, none⟩) hWl).trans y1
          replace y2 := (hb5.cell (p := ⟨W.heap.size, 2, none⟩) hWl).trans y2
          replace y3 := (hb5.cell (p := ⟨W.heap.size, 3, none⟩) hWl).trans y3
          obtain ⟨v0, v1, v2, v3, ⟨r0, q0⟩, ⟨r1, q1⟩, ⟨r2, q2⟩, ⟨r3, q3⟩, hr5, hd5, hE5, hB5⟩ := hC5
          have HD5 := Lib.hid hd5
          have hne5 : w.heap.size ≠ W.heap.size := by have := HC.out; obtain ⟨_, _, _, _, _, _, _, _, hrr, _⟩ := this; have h := block_lt_of_cell hrr; simp at h; omega
          clear hd5 hb5 hr4 h04 HC4
          have hSUM := HDI.out
          generalize unbe ((s.data.toList.drop (7 + k3)).take 4) = sm at *
          generalize crc (s.data.toList.take (7 + k3)) = cr at *
          by_cases hsc : sm = cr
          · have HR := Lib.hid (HRY.out (hSUM.2 ⟨by rw [HLZ.out]; exact HLEN.out, HVV.out, hsc⟩))
            subst hsc
            clear hSUM
            go_wp2_with fail
            exact dec_ret n s w W5 D _ k0 k1 k2 0 (s.extract 7 (7 + k3)) r0 r1 r2 r3 rfl rfl HD5.out HDS.out hB5 HR.out
          · have HR := Lib.hid (HRN.out (by cases hb : decB s.data.toList with | false => rfl | true => exact absurd (hSUM.1 hb).2.2 hsc))
            have b1 : ((sm : Int) == (cr : Int)) = false := by rw [beq_eq_false_iff_ne]; omega
            have b2 : ((sm : Int) != (cr : Int)) = true := by rw [bne_iff_ne]; omega
            have b3 : (sm == cr) = false := by rw [beq_eq_false_iff_ne]; exact hsc
            have b4 : (sm != cr) = true := by rw [bne_iff_ne]; exact hsc
            clear hSUM hsc
            go_wp2_with fail
            exact dec_ret n s w W5 D _ 0 0 0 40 ⟨#[]⟩ r0 r1 r2 r3 rfl rfl HD5.out HDS.out hB5 HR.out
        · have hv' : (decF s.data.toList).okB = false := by simpa using hv
          have HR := Lib.hid (HRN.out (by cases hb : decB s.data.toList with | false => rfl | true => exact absurd (HDI.out.1 hb).2.1 hv))
          rw [hv']
          obtain ⟨v0, v1, v2, v3, ⟨r0, q0⟩, ⟨r1, q1⟩, ⟨r2, q2⟩, ⟨r3, q3⟩, hr3, hd3, hE3, hB3⟩ := hC3
          have HD3 := Lib.hid hd3
          clear hd3 hv hv'
          go_wp2_with fail
          exact dec_ret n s w W3 D _ 0 0 0 40 ⟨#[]⟩ r0 r1 r2 r3 rfl rfl HD3.out HDS.out hB3 HR.out
    · have HR := Lib.hid (decRes_no (s := s) (by cases hb : decB s.data.toList with | false => rfl | true => exact absurd (dec_len hb) (by omega)))
      have hne : ((s.size : Int) == 7 + (fld3 s.data.toList : Int) + 4) = false := by rw [beq_eq_false_iff_ne]; omega
      have hne2 : ((s.size : Int) != 7 + (fld3 s.data.toList : Int) + 4) = true := by rw [bne_iff_ne]; omega
      clear hlz hlen
      go_wp2_with fail
      exact dec_ret n s w W D _ 0 0 0 40 ⟨#[]⟩ r0 r1 r2 r3 rfl rfl HD.out (by have := HDS.out; omega) hB HR.out
  case stop =>
    rintro D c pre W hD hpre ⟨⟨⟨rfl, ns, rfl, hF⟩, hK⟩, hB⟩ hDf
    obtain ⟨hn3, hl7⟩ := flds_stop hpre
    have HR := Lib.hid (decRes_no (s := s) (by cases hb : decB s.data.toList with | false => rfl | true => exact absurd (dec_len hb) (by omega)))
    have HD := Lib.hid hDf
    have hD' : w.heap.size ≤ D := by rw [hsz] at hD; omega
    have HDS := Lib.hid hD'
    have f3 : W.cell? ⟨w.heap.size + 1 + 1, 3, none⟩ = some (.int .i64 0) := by
      rw [(hF.1 3 (by omega)).1, List.getD_eq_getElem?_getD, List.getElem?_eq_none (by omega)]; rfl
    have hc : W.cell? ⟨w.heap.size + 1 + 1 + 1, 0, none⟩ = some (.int .i64 (ns.length : Int)) := hF.2.1
    have hr := hK.1
    obtain ⟨v0, v1, v2, v3, ⟨r0, q0⟩, ⟨r1, q1⟩, ⟨r2, q2⟩, ⟨r3, q3⟩⟩ := decK_cells hK
    have hlt4 : (ns.length : Int) < 4 := by omega
    clear hpre hDf hD hF hK HST HBX HSZ hsz hE0 hD' hl7
    refine wpIn_wide.2 ?_
    go_wp2_with fail
    exact dec_ret n s w W D _ 0 0 0 40 ⟨#[]⟩ r0 r1 r2 r3 rfl rfl HD.out HDS.out hB HR.out
theorem decode_any (s : ByteArray) (hs : s.size ≤ 1048576) (a : Addr) (w : World) (he : ErrS a w) :
    Calls Tryd.prog 13 #[.string s] w fun e W' => e = .returned (decRes s) ∧ Below w.heap.size w W' :=
  (callsIn_wide (n := 4)).1 (decode_in 4 (Nat.le_refl _) s hs a w he)
end Go.Proofs.YtldmkoicjpkdiaaDoor
