/- LinkMatchesReference: its walk. -/
import Derived.Test.YtldmkoicjpkdiaaDoorLkRef3
namespace Go.Proofs.YtldmkoicjpkdiaaDoor
open Go.RowKit
def encA (t f k : Int) (s : ByteArray) : ByteArray := if Fr.okB ⟨t, f, k, s.data.toList⟩ = true then ⟨(Fr.encL ⟨t, f, k, s.data.toList⟩).toArray⟩ else ⟨#[]⟩
def encX (t f k : Int) (s : ByteArray) : Int := if Fr.okB ⟨t, f, k, s.data.toList⟩ = true then 0 else 40
theorem encode_any (t f k : Int) (s : ByteArray) (hs : s.size ≤ 9223372036854775807) (a : Addr) (w : World) (he : ErrS a w) :
    Calls Tryd.prog 11 #[.agg #[.int .i64 t, .int .i64 f, .int .i64 k, .string s]] w fun e w' => e = .returned (.tuple #[.string (encA t f k s), .int .i64 (encX t f k s)]) ∧ Below w.heap.size w w' := by
  by_cases h : Fr.okB ⟨t, f, k, s.data.toList⟩ = true
  · unfold encA encX
    rw [if_pos h, if_pos h]
    exact encode_yes t f k s h a w he
  · unfold encA encX
    rw [if_neg h, if_neg h]
    exact encode_no t f k s hs (Bool.eq_false_iff.2 h) w
theorem rencode_any (t f k : Int) (s : ByteArray) (hs : s.size ≤ 9223372036854775807) (w : World) :
    Calls Tryd.prog 12 #[.agg #[.int .i64 t, .int .i64 f, .int .i64 k, .string s]] w fun e w' => e = .returned (.tuple #[.string (encA t f k s), .int .i64 (encX t f k s)]) ∧ Below w.heap.size w w' := by
  by_cases h : Fr.okB ⟨t, f, k, s.data.toList⟩ = true
  · unfold encA encX
    rw [if_pos h, if_pos h]
    exact rencode_yes t f k s h w
  · unfold encA encX
    rw [if_neg h, if_neg h]
    exact rencode_no t f k s hs (Bool.eq_false_iff.2 h) w
theorem rdecode_any (s : ByteArray) (hs : s.size ≤ 9223372036854775807) (w : World) :
    Calls Tryd.prog 14 #[.string s] w fun e w' => e = .returned (decRes s) ∧ Below w.heap.size w w' := by
  by_cases h : s.size < 11 ∨ 1035 < s.size
  · exact rdecode_short s hs h w
  · exact rdecode_long s (by omega) (by omega) w
theorem decRes_shape (s : ByteArray) : ∃ a b c : Int, ∃ t : ByteArray, ∃ e : Int, decRes s = .tuple #[.agg #[.int .i64 a, .int .i64 b, .int .i64 c, .string t], .int .i64 e] := by
  cases h : decB s.data.toList with
  | true => exact ⟨_, _, _, _, _, decRes_yes h⟩
  | false => exact ⟨_, _, _, _, _, decRes_no h⟩
theorem Box.set3 {G : Nat} {t f k : Int} {s s' : ByteArray} {w : World} (h : Box G t f k s w) : Box G t f k s' (w.setCell ⟨G, 3, none⟩ (.string s')) := by
  refine ⟨?_, ?_, ?_, ?_, ?_⟩
  · rw [World.cell?_setCell_other _ _ _ _ (by simp)]; exact h.c0
  · rw [World.cell?_setCell_other _ _ _ _ (by simp)]; exact h.c1
  · rw [World.cell?_setCell_other _ _ _ _ (by simp)]; exact h.c2
  · exact World.cell?_setCell_same _ _ _ h.c3
  · simpa using h.lt

set_option maxRecDepth 100000 in
set_option maxHeartbeats 4000000 in
theorem walk_LinkMatchesReference (w : World) (t f k : Int) (s : ByteArray) (hwf : WfF t f k s) (s1 : ByteArray) (hs1 : s1.size ≤ maxLen) (mac : Int) (_wm : (Lit.int .i64 mac).wf = true) (hE : ∃ a, ErrS a w) :
    Calls Tryd.prog 3 #[.agg #[.int .i64 t, .int .i64 f, .int .i64 k, .string s], .string s1, .int .i64 mac] w fun e w' => e = .returned (.bool true) ∧ Below w.heap.size w w' := by
  obtain ⟨a, he⟩ := hE
  have hb0 := Below.refl w.heap.size w
  obtain ⟨_, _, _, hsm⟩ := hwf
  unfold maxLen at hsm hs1
  have m1 : 0 ≤ min (s.size : Int) 1100 := by omega
  have m2 : min (s.size : Int) 1100 ≤ (s.size : Int) := by omega
  have m3 : 0 ≤ min (s1.size : Int) 1100 := by omega
  have m4 : min (s1.size : Int) 1100 ≤ (s1.size : Int) := by omega
  go_enter Tryd.func3, Tryd.ntmps3
  go_wp2_with fail
  have hg := he.2
  have yz : (w.alloc (.cells #[.int .i64 t, .int .i64 f, .int .i64 k, .string s] 23)).frozen? ⟨w.heap.size, 3, none⟩ = false := frozen_of_row _ _ _ _ _ (heap_alloc_new _ _)
  have x := Box.new w t f k s 23
  have hb := new_below w (.cells #[.int .i64 t, .int .i64 f, .int .i64 k, .string s] 23)
  replace he := he.below hb he.2
  replace hb0 := below_val hb0 hb0.size hb
  clear hb
  generalize w.alloc (.cells #[.int .i64 t, .int .i64 f, .int .i64 k, .string s] 23) = V1 at *
  generalize hGe : w.heap.size = G1 at x yz hg ⊢
  have HG4 := Lib.hid (And.intro (Nat.le_of_eq hGe) hg)
  clear hGe hg
  refine (sane_any a _ he).mono ?_
  rintro e W2 ⟨rfl, hb⟩
  replace he := he.below hb he.2
  replace yz := (hb.frozen (p := ⟨G1, 3, none⟩) x.lt).trans yz
  replace x := x.below hb
  replace hb0 := below_val hb0 hb0.size hb
  clear hb
  obtain ⟨x0, x1, x2, x3, xl⟩ := x
  go_wp2_with fail
  have x := Box.mk x0 x1 x2 x3 xl
  clear x0 x1 x2 x3 xl
  replace x := x.set3 (s' := (s.extract 0 (min (s.size : Int) 1100).toNat))
  replace he := he.set (p := ⟨G1, 3, none⟩) (v := .string (s.extract 0 (min (s.size : Int) 1100).toNat)) HG4.out.2
  replace hb0 := hb0.setCell (p := ⟨G1, 3, none⟩) HG4.out.1 (.string (s.extract 0 (min (s.size : Int) 1100).toNat))
  clear yz
  generalize W2.setCell ⟨G1, 3, none⟩ (.string (s.extract 0 (min (s.size : Int) 1100).toNat)) = V3 at *
  have z1 : (s.extract 0 (min (s.size : Int) 1100).toNat).size ≤ 1100 := by rw [ByteArray.size_extract]; omega
  have z2 : (s1.extract 0 (min (s1.size : Int) 1100).toNat).size ≤ 1100 := by rw [ByteArray.size_extract]; omega
  clear m1 m2 m3 m4
  generalize (s.extract 0 (min (s.size : Int) 1100).toNat) = S at *
  generalize (s1.extract 0 (min (s1.size : Int) 1100).toNat) = S1 at *
  refine (encode_any t f k S (by omega) a _ he).mono ?_
  rintro e W4 ⟨rfl, hb⟩
  replace he := he.below hb he.2
  replace x := x.below hb
  replace hb0 := below_val hb0 hb0.size hb
  clear hb
  obtain ⟨x0, x1, x2, x3, xl⟩ := x
  go_wp2_with fail
  have x := Box.mk x0 x1 x2 x3 xl
  clear x0 x1 x2 x3 xl
  refine (rencode_any t f k S (by omega) _).mono ?_
  rintro e W5 ⟨rfl, hb⟩
  replace he := he.below hb he.2
  replace x := x.below hb
  replace hb0 := below_val hb0 hb0.size hb
  clear hb
  generalize encA t f k S = A at *
  generalize encX t f k S = ex at *
  obtain ⟨x0, x1, x2, x3, xl⟩ := x
  go_wp2_with fail
  have x := Box.mk x0 x1 x2 x3 xl
  clear x0 x1 x2 x3 xl
  obtain ⟨da, db, dc, dt, de, hD⟩ := decRes_shape S1
  have HD := Lib.hid hD
  clear hD
  refine (decode_any S1 (by omega) a _ he).mono ?_
  rintro e W6 ⟨rfl, hb⟩
  rw [HD.out]
  replace he := he.below hb he.2
  replace x := x.below hb
  replace hb0 := below_val hb0 hb0.size hb
  clear hb
  obtain ⟨x0, x1, x2, x3, xl⟩ := x
  go_wp2_with fail
  have x := Box.mk x0 x1 x2 x3 xl
  clear x0 x1 x2 x3 xl
  have y := Box.new W6 da db dc dt 23
  have hb := new_below W6 (.cells #[.int .i64 da, .int .i64 db, .int .i64 dc, .string dt] 23)
  replace he := he.below hb he.2
  replace x := x.below hb
  replace hb0 := below_val hb0 hb0.size hb
  clear hb
  generalize W6.alloc (.cells #[.int .i64 da, .int .i64 db, .int .i64 dc, .string dt] 23) = V6 at *
  generalize W6.heap.size = G6 at y ⊢
  refine (rdecode_any S1 (by omega) _).mono ?_
  rintro e W7 ⟨rfl, hb⟩
  rw [HD.out]
  replace he := he.below hb he.2
  replace x := x.below hb
  replace y := y.below hb
  replace hb0 := below_val hb0 hb0.size hb
  clear hb
  obtain ⟨x0, x1, x2, x3, xl⟩ := x
  obtain ⟨y0, y1, y2, y3, yl⟩ := y
  go_wp2_with fail
  have x := Box.mk x0 x1 x2 x3 xl
  clear x0 x1 x2 x3 xl
  have y := Box.mk y0 y1 y2 y3 yl
  clear y0 y1 y2 y3 yl
  have z := Box.new W7 da db dc dt 23
  have hb := new_below W7 (.cells #[.int .i64 da, .int .i64 db, .int .i64 dc, .string dt] 23)
  replace he := he.below hb he.2
  replace x := x.below hb
  replace y := y.below hb
  replace hb0 := below_val hb0 hb0.size hb
  clear hb
  generalize W7.alloc (.cells #[.int .i64 da, .int .i64 db, .int .i64 dc, .string dt] 23) = V7 at *
  generalize W7.heap.size = G7 at z ⊢
  go_wp2_with fail
  refine wp_region_held_drew (S := (fun w' => Box G1 t f k S w' ∧ Box G6 da db dc dt w' ∧ Box G7 da db dc dt w')) (by kernel_rfl) (⟨⟨x.1, x.2, x.3, x.4, x.5⟩, ⟨y.1, y.2, y.3, y.4, y.5⟩, ⟨z.1, z.2, z.3, z.4, z.5⟩⟩) (fun hHeld => ?_)
  refine wpAnyH_take (i := 0) (v := ?_) (by simp only [List.getElem?_toArray, List.getElem?_cons_zero]; rfl) (by kernel_rfl) (by kernel_rfl) (by kernel_rfl) (by exact fun _ _ _ h => h) (Or.inl ⟨by rfl, ?_⟩) (by assumption) ?_
  rotate_left 1
  · intro w hSw; obtain ⟨⟨x0, x1, x2, x3, xl⟩, ⟨y0, y1, y2, y3, yl⟩, ⟨z0, z1, z2, z3, zl⟩⟩ := hSw; go_simp; (try with_reducible rfl)
  (try simp only [Act.put, List.setIfInBounds_toArray, List.set_cons_zero, List.set_cons_succ])
  refine wpAnyH_take (i := 1) (v := ?_) (by simp only [List.getElem?_toArray, List.getElem?_cons_succ, List.getElem?_cons_zero]; rfl) (by kernel_rfl) (by kernel_rfl) (by kernel_rfl) (by exact fun _ _ _ h => h) (Or.inl ⟨by rfl, ?_⟩) (by assumption) ?_
  rotate_left 1
  · intro w hSw; obtain ⟨⟨x0, x1, x2, x3, xl⟩, ⟨y0, y1, y2, y3, yl⟩, ⟨z0, z1, z2, z3, zl⟩⟩ := hSw; go_simp; (try with_reducible rfl)
  (try simp only [Act.put, List.setIfInBounds_toArray, List.set_cons_zero, List.set_cons_succ])
  refine wpAnyH_take (i := 2) (v := ?_) (by simp only [List.getElem?_toArray, List.getElem?_cons_succ, List.getElem?_cons_zero]; rfl) (by kernel_rfl) (by kernel_rfl) (by kernel_rfl) (by exact fun _ _ _ h => h) (Or.inl ⟨by rfl, ?_⟩) (by assumption) ?_
  rotate_left 1
  · intro w hSw; obtain ⟨⟨x0, x1, x2, x3, xl⟩, ⟨y0, y1, y2, y3, yl⟩, ⟨z0, z1, z2, z3, zl⟩⟩ := hSw; go_simp; (try with_reducible rfl)
  (try simp only [Act.put, List.setIfInBounds_toArray, List.set_cons_zero, List.set_cons_succ])
  refine wpAnyH_take (i := 4) (v := ?_) (by simp only [List.getElem?_toArray, List.getElem?_cons_succ, List.getElem?_cons_zero]; rfl) (by kernel_rfl) (by kernel_rfl) (by kernel_rfl) (by exact fun _ _ _ h => h) (Or.inl ⟨by rfl, ?_⟩) (by assumption) ?_
  rotate_left 1
  · intro w hSw; obtain ⟨⟨x0, x1, x2, x3, xl⟩, ⟨y0, y1, y2, y3, yl⟩, ⟨z0, z1, z2, z3, zl⟩⟩ := hSw; go_simp; (try with_reducible rfl)
  (try simp only [Act.put, List.setIfInBounds_toArray, List.set_cons_zero, List.set_cons_succ])
  refine wpAnyH_ready (rs := [3]) (by kernel_rfl) (by simp) ?_
  refine AllReadyH.cons (by simp only [List.getElem?_toArray, List.getElem?_cons_succ, List.getElem?_cons_zero]; rfl) (fun Kq hKq => ?_) AllReadyH.nil
  go_simp
  refine (valid_any t f k S (by omega) _).mono ?_
  rintro e W11 ⟨rfl, hb⟩
  have hx : Box G1 t f k S W11 ∧ Box G6 da db dc dt W11 ∧ Box G7 da db dc dt W11 := ⟨Box.below hHeld.1 hb, Box.below hHeld.2.1 hb, Box.below hHeld.2.2 hb⟩
  replace hb0 := below_val hb0.drew hb0.size hb
  clear hb
  go_simp
  refine hKq.out _ _ (hx) (fun hHeld2 => ?_)
  clear hKq Kq hHeld
  (try simp only [Act.put, List.setIfInBounds_toArray, List.set_cons_zero, List.set_cons_succ])
  have hHeld := hHeld2
  clear hHeld2
  clear hx
  refine wpAnyH_ready (rs := [5]) (by kernel_rfl) (by simp) ?_
  refine AllReadyH.cons (by simp only [List.getElem?_toArray, List.getElem?_cons_succ, List.getElem?_cons_zero]; rfl) (fun Kq hKq => ?_) AllReadyH.nil
  go_simp
  refine (rvalid_any t f k S (by omega) _).mono ?_
  rintro e W12 ⟨rfl, hb⟩
  have hx : Box G1 t f k S W12 ∧ Box G6 da db dc dt W12 ∧ Box G7 da db dc dt W12 := ⟨Box.below hHeld.1 hb, Box.below hHeld.2.1 hb, Box.below hHeld.2.2 hb⟩
  replace hb0 := below_val hb0 hb0.size hb
  clear hb
  go_simp
  refine hKq.out _ _ (hx) (fun hHeld2 => ?_)
  clear hKq Kq hHeld
  (try simp only [Act.put, List.setIfInBounds_toArray, List.set_cons_zero, List.set_cons_succ])
  have hHeld := hHeld2
  clear hHeld2
  clear hx
  refine wpAnyH_take (i := 6) (v := ?_) (by simp only [List.getElem?_toArray, List.getElem?_cons_succ, List.getElem?_cons_zero]; rfl) (by kernel_rfl) (by kernel_rfl) (by kernel_rfl) (by exact fun _ _ _ h => h) (Or.inl ⟨by rfl, ?_⟩) (by assumption) ?_
  rotate_left 1
  · intro w hSw; obtain ⟨⟨x0, x1, x2, x3, xl⟩, ⟨y0, y1, y2, y3, yl⟩, ⟨z0, z1, z2, z3, zl⟩⟩ := hSw; go_simp; (try with_reducible rfl)
  (try simp only [Act.put, List.setIfInBounds_toArray, List.set_cons_zero, List.set_cons_succ])
  refine wpAnyH_take (i := 7) (v := ?_) (by simp only [List.getElem?_toArray, List.getElem?_cons_succ, List.getElem?_cons_zero]; rfl) (by kernel_rfl) (by kernel_rfl) (by kernel_rfl) (by exact fun _ _ _ h => h) (Or.inl ⟨by rfl, ?_⟩) (by assumption) ?_
  rotate_left 1
  · intro w hSw; obtain ⟨⟨x0, x1, x2, x3, xl⟩, ⟨y0, y1, y2, y3, yl⟩, ⟨z0, z1, z2, z3, zl⟩⟩ := hSw; go_simp; (try with_reducible rfl)
  (try simp only [Act.put, List.setIfInBounds_toArray, List.set_cons_zero, List.set_cons_succ])
  refine wpAnyH_take (i := 8) (v := ?_) (by simp only [List.getElem?_toArray, List.getElem?_cons_succ, List.getElem?_cons_zero]; rfl) (by kernel_rfl) (by kernel_rfl) (by kernel_rfl) (by exact fun _ _ _ h => h) (Or.inl ⟨by rfl, ?_⟩) (by assumption) ?_
  rotate_left 1
  · intro w hSw; obtain ⟨⟨x0, x1, x2, x3, xl⟩, ⟨y0, y1, y2, y3, yl⟩, ⟨z0, z1, z2, z3, zl⟩⟩ := hSw; go_simp; (try with_reducible rfl)
  (try simp only [Act.put, List.setIfInBounds_toArray, List.set_cons_zero, List.set_cons_succ])
  refine wpAnyH_take (i := 9) (v := ?_) (by simp only [List.getElem?_toArray, List.getElem?_cons_succ, List.getElem?_cons_zero]; rfl) (by kernel_rfl) (by kernel_rfl) (by kernel_rfl) (by exact fun _ _ _ h => h) (Or.inl ⟨by rfl, ?_⟩) (by assumption) ?_
  rotate_left 1
  · intro w hSw; obtain ⟨⟨x0, x1, x2, x3, xl⟩, ⟨y0, y1, y2, y3, yl⟩, ⟨z0, z1, z2, z3, zl⟩⟩ := hSw; go_simp; (try with_reducible rfl)
  (try simp only [Act.put, List.setIfInBounds_toArray, List.set_cons_zero, List.set_cons_succ])
  refine wpAnyH_take (i := 10) (v := ?_) (by simp only [List.getElem?_toArray, List.getElem?_cons_succ, List.getElem?_cons_zero]; rfl) (by kernel_rfl) (by kernel_rfl) (by kernel_rfl) (by exact fun _ _ _ h => h) (Or.inl ⟨by rfl, ?_⟩) (by assumption) ?_
  rotate_left 1
  · intro w hSw; obtain ⟨⟨x0, x1, x2, x3, xl⟩, ⟨y0, y1, y2, y3, yl⟩, ⟨z0, z1, z2, z3, zl⟩⟩ := hSw; go_simp; (try with_reducible rfl)
  (try simp only [Act.put, List.setIfInBounds_toArray, List.set_cons_zero, List.set_cons_succ])
  refine wpAnyH_take (i := 11) (v := ?_) (by simp only [List.getElem?_toArray, List.getElem?_cons_succ, List.getElem?_cons_zero]; rfl) (by kernel_rfl) (by kernel_rfl) (by kernel_rfl) (by exact fun _ _ _ h => h) (Or.inl ⟨by rfl, ?_⟩) (by assumption) ?_
  rotate_left 1
  · intro w hSw; obtain ⟨⟨x0, x1, x2, x3, xl⟩, ⟨y0, y1, y2, y3, yl⟩, ⟨z0, z1, z2, z3, zl⟩⟩ := hSw; go_simp; (try with_reducible rfl)
  (try simp only [Act.put, List.setIfInBounds_toArray, List.set_cons_zero, List.set_cons_succ])
  refine wpAnyH_take (i := 12) (v := ?_) (by simp only [List.getElem?_toArray, List.getElem?_cons_succ, List.getElem?_cons_zero]; rfl) (by kernel_rfl) (by kernel_rfl) (by kernel_rfl) (by exact fun _ _ _ h => h) (Or.inl ⟨by rfl, ?_⟩) (by assumption) ?_
  rotate_left 1
  · intro w hSw; obtain ⟨⟨x0, x1, x2, x3, xl⟩, ⟨y0, y1, y2, y3, yl⟩, ⟨z0, z1, z2, z3, zl⟩⟩ := hSw; go_simp; (try with_reducible rfl)
  (try simp only [Act.put, List.setIfInBounds_toArray, List.set_cons_zero, List.set_cons_succ])
  refine wpAnyH_take (i := 13) (v := ?_) (by simp only [List.getElem?_toArray, List.getElem?_cons_succ, List.getElem?_cons_zero]; rfl) (by kernel_rfl) (by kernel_rfl) (by kernel_rfl) (by exact fun _ _ _ h => h) (Or.inl ⟨by rfl, ?_⟩) (by assumption) ?_
  rotate_left 1
  · intro w hSw; obtain ⟨⟨x0, x1, x2, x3, xl⟩, ⟨y0, y1, y2, y3, yl⟩, ⟨z0, z1, z2, z3, zl⟩⟩ := hSw; go_simp; (try with_reducible rfl)
  (try simp only [Act.put, List.setIfInBounds_toArray, List.set_cons_zero, List.set_cons_succ])
  refine wpAnyH_take (i := 14) (v := ?_) (by simp only [List.getElem?_toArray, List.getElem?_cons_succ, List.getElem?_cons_zero]; rfl) (by kernel_rfl) (by kernel_rfl) (by kernel_rfl) (by exact fun _ _ _ h => h) (Or.inl ⟨by rfl, ?_⟩) (by assumption) ?_
  rotate_left 1
  · intro w hSw; obtain ⟨⟨x0, x1, x2, x3, xl⟩, ⟨y0, y1, y2, y3, yl⟩, ⟨z0, z1, z2, z3, zl⟩⟩ := hSw; go_simp; (try with_reducible rfl)
  (try simp only [Act.put, List.setIfInBounds_toArray, List.set_cons_zero, List.set_cons_succ])
  refine wpAnyH_take (i := 15) (v := ?_) (by simp only [List.getElem?_toArray, List.getElem?_cons_succ, List.getElem?_cons_zero]; rfl) (by kernel_rfl) (by kernel_rfl) (by kernel_rfl) (by exact fun _ _ _ h => h) (Or.inl ⟨by rfl, ?_⟩) (by assumption) ?_
  rotate_left 1
  · intro w hSw; obtain ⟨⟨x0, x1, x2, x3, xl⟩, ⟨y0, y1, y2, y3, yl⟩, ⟨z0, z1, z2, z3, zl⟩⟩ := hSw; go_simp; (try with_reducible rfl)
  (try simp only [Act.put, List.setIfInBounds_toArray, List.set_cons_zero, List.set_cons_succ])
  refine wpAnyH_take (i := 16) (v := ?_) (by simp only [List.getElem?_toArray, List.getElem?_cons_succ, List.getElem?_cons_zero]; rfl) (by kernel_rfl) (by kernel_rfl) (by kernel_rfl) (by exact fun _ _ _ h => h) (Or.inl ⟨by rfl, ?_⟩) (by assumption) ?_
  rotate_left 1
  · intro w hSw; obtain ⟨⟨x0, x1, x2, x3, xl⟩, ⟨y0, y1, y2, y3, yl⟩, ⟨z0, z1, z2, z3, zl⟩⟩ := hSw; go_simp; (try with_reducible rfl)
  (try simp only [Act.put, List.setIfInBounds_toArray, List.set_cons_zero, List.set_cons_succ])
  refine wpAnyH_take (i := 17) (v := ?_) (by simp only [List.getElem?_toArray, List.getElem?_cons_succ, List.getElem?_cons_zero]; rfl) (by kernel_rfl) (by kernel_rfl) (by kernel_rfl) (by exact fun _ _ _ h => h) (Or.inl ⟨by rfl, ?_⟩) (by assumption) ?_
  rotate_left 1
  · intro w hSw; obtain ⟨⟨x0, x1, x2, x3, xl⟩, ⟨y0, y1, y2, y3, yl⟩, ⟨z0, z1, z2, z3, zl⟩⟩ := hSw; go_simp; (try with_reducible rfl)
  (try simp only [Act.put, List.setIfInBounds_toArray, List.set_cons_zero, List.set_cons_succ])
  refine wpAnyH_take (i := 18) (v := ?_) (by simp only [List.getElem?_toArray, List.getElem?_cons_succ, List.getElem?_cons_zero]; rfl) (by kernel_rfl) (by kernel_rfl) (by kernel_rfl) (by exact fun _ _ _ h => h) (Or.inl ⟨by rfl, ?_⟩) (by assumption) ?_
  rotate_left 1
  · intro w hSw; obtain ⟨⟨x0, x1, x2, x3, xl⟩, ⟨y0, y1, y2, y3, yl⟩, ⟨z0, z1, z2, z3, zl⟩⟩ := hSw; go_simp; (try with_reducible rfl)
  (try simp only [Act.put, List.setIfInBounds_toArray, List.set_cons_zero, List.set_cons_succ])
  refine wpAnyH_take (i := 19) (v := ?_) (by simp only [List.getElem?_toArray, List.getElem?_cons_succ, List.getElem?_cons_zero]; rfl) (by kernel_rfl) (by kernel_rfl) (by kernel_rfl) (by exact fun _ _ _ h => h) (Or.inl ⟨by rfl, ?_⟩) (by assumption) ?_
  rotate_left 1
  · intro w hSw; obtain ⟨⟨x0, x1, x2, x3, xl⟩, ⟨y0, y1, y2, y3, yl⟩, ⟨z0, z1, z2, z3, zl⟩⟩ := hSw; go_simp; (try with_reducible rfl)
  (try simp only [Act.put, List.setIfInBounds_toArray, List.set_cons_zero, List.set_cons_succ])
  refine wpAnyH_take (i := 20) (v := ?_) (by simp only [List.getElem?_toArray, List.getElem?_cons_succ, List.getElem?_cons_zero]; rfl) (by kernel_rfl) (by kernel_rfl) (by kernel_rfl) (by exact fun _ _ _ h => h) (Or.inl ⟨by rfl, ?_⟩) (by assumption) ?_
  rotate_left 1
  · intro w hSw; obtain ⟨⟨x0, x1, x2, x3, xl⟩, ⟨y0, y1, y2, y3, yl⟩, ⟨z0, z1, z2, z3, zl⟩⟩ := hSw; go_simp; (try with_reducible rfl)
  (try simp only [Act.put, List.setIfInBounds_toArray, List.set_cons_zero, List.set_cons_succ])
  refine wpAnyH_take (i := 21) (v := ?_) (by simp only [List.getElem?_toArray, List.getElem?_cons_succ, List.getElem?_cons_zero]; rfl) (by kernel_rfl) (by kernel_rfl) (by kernel_rfl) (by exact fun _ _ _ h => h) (Or.inl ⟨by rfl, ?_⟩) (by assumption) ?_
  rotate_left 1
  · intro w hSw; obtain ⟨⟨x0, x1, x2, x3, xl⟩, ⟨y0, y1, y2, y3, yl⟩, ⟨z0, z1, z2, z3, zl⟩⟩ := hSw; go_simp; (try with_reducible rfl)
  (try simp only [Act.put, List.setIfInBounds_toArray, List.set_cons_zero, List.set_cons_succ])
  refine wpAnyH_take (i := 22) (v := ?_) (by simp only [List.getElem?_toArray, List.getElem?_cons_succ, List.getElem?_cons_zero]; rfl) (by kernel_rfl) (by kernel_rfl) (by kernel_rfl) (by exact fun _ _ _ h => h) (Or.inl ⟨by rfl, ?_⟩) (by assumption) ?_
  rotate_left 1
  · intro w hSw; obtain ⟨⟨x0, x1, x2, x3, xl⟩, ⟨y0, y1, y2, y3, yl⟩, ⟨z0, z1, z2, z3, zl⟩⟩ := hSw; go_simp; (try with_reducible rfl)
  (try simp only [Act.put, List.setIfInBounds_toArray, List.set_cons_zero, List.set_cons_succ])
  refine wpAnyH_take (i := 23) (v := ?_) (by simp only [List.getElem?_toArray, List.getElem?_cons_succ, List.getElem?_cons_zero]; rfl) (by kernel_rfl) (by kernel_rfl) (by kernel_rfl) (by exact fun _ _ _ h => h) (Or.inl ⟨by rfl, ?_⟩) (by assumption) ?_
  rotate_left 1
  · intro w hSw; obtain ⟨⟨x0, x1, x2, x3, xl⟩, ⟨y0, y1, y2, y3, yl⟩, ⟨z0, z1, z2, z3, zl⟩⟩ := hSw; go_simp; (try with_reducible rfl)
  (try simp only [Act.put, List.setIfInBounds_toArray, List.set_cons_zero, List.set_cons_succ])
  refine wpAnyH_take (i := 24) (v := ?_) (by simp only [List.getElem?_toArray, List.getElem?_cons_succ, List.getElem?_cons_zero]; rfl) (by kernel_rfl) (by kernel_rfl) (by kernel_rfl) (by exact fun _ _ _ h => h) (Or.inl ⟨by rfl, ?_⟩) (by assumption) ?_
  rotate_left 1
  · intro w hSw; obtain ⟨⟨x0, x1, x2, x3, xl⟩, ⟨y0, y1, y2, y3, yl⟩, ⟨z0, z1, z2, z3, zl⟩⟩ := hSw; go_simp; (try with_reducible rfl)
  (try simp only [Act.put, List.setIfInBounds_toArray, List.set_cons_zero, List.set_cons_succ])
  refine wpAnyH_take (i := 25) (v := ?_) (by simp only [List.getElem?_toArray, List.getElem?_cons_succ, List.getElem?_cons_zero]; rfl) (by kernel_rfl) (by kernel_rfl) (by kernel_rfl) (by exact fun _ _ _ h => h) (Or.inl ⟨by rfl, ?_⟩) (by assumption) ?_
  rotate_left 1
  · intro w hSw; obtain ⟨⟨x0, x1, x2, x3, xl⟩, ⟨y0, y1, y2, y3, yl⟩, ⟨z0, z1, z2, z3, zl⟩⟩ := hSw; go_simp; (try with_reducible rfl)
  (try simp only [Act.put, List.setIfInBounds_toArray, List.set_cons_zero, List.set_cons_succ])
  refine wpAnyH_take (i := 26) (v := ?_) (by simp only [List.getElem?_toArray, List.getElem?_cons_succ, List.getElem?_cons_zero]; rfl) (by kernel_rfl) (by kernel_rfl) (by kernel_rfl) (by exact fun _ _ _ h => h) (Or.inl ⟨by rfl, ?_⟩) (by assumption) ?_
  rotate_left 1
  · intro w hSw; obtain ⟨⟨x0, x1, x2, x3, xl⟩, ⟨y0, y1, y2, y3, yl⟩, ⟨z0, z1, z2, z3, zl⟩⟩ := hSw; go_simp; (try with_reducible rfl)
  (try simp only [Act.put, List.setIfInBounds_toArray, List.set_cons_zero, List.set_cons_succ])
  refine wpAnyH_take (i := 27) (v := ?_) (by simp only [List.getElem?_toArray, List.getElem?_cons_succ, List.getElem?_cons_zero]; rfl) (by kernel_rfl) (by kernel_rfl) (by kernel_rfl) (by exact fun _ _ _ h => h) (Or.inl ⟨by rfl, ?_⟩) (by assumption) ?_
  rotate_left 1
  · intro w hSw; obtain ⟨⟨x0, x1, x2, x3, xl⟩, ⟨y0, y1, y2, y3, yl⟩, ⟨z0, z1, z2, z3, zl⟩⟩ := hSw; go_simp; (try with_reducible rfl)
  (try simp only [Act.put, List.setIfInBounds_toArray, List.set_cons_zero, List.set_cons_succ])
  refine wpAnyH_take (i := 28) (v := ?_) (by simp only [List.getElem?_toArray, List.getElem?_cons_succ, List.getElem?_cons_zero]; rfl) (by kernel_rfl) (by kernel_rfl) (by kernel_rfl) (by exact fun _ _ _ h => h) (Or.inl ⟨by rfl, ?_⟩) (by assumption) ?_
  rotate_left 1
  · intro w hSw; obtain ⟨⟨x0, x1, x2, x3, xl⟩, ⟨y0, y1, y2, y3, yl⟩, ⟨z0, z1, z2, z3, zl⟩⟩ := hSw; go_simp; (try with_reducible rfl)
  (try simp only [Act.put, List.setIfInBounds_toArray, List.set_cons_zero, List.set_cons_succ])
  refine wpAnyH_take (i := 29) (v := ?_) (by simp only [List.getElem?_toArray, List.getElem?_cons_succ, List.getElem?_cons_zero]; rfl) (by kernel_rfl) (by kernel_rfl) (by kernel_rfl) (by exact fun _ _ _ h => h) (Or.inl ⟨by rfl, ?_⟩) (by assumption) ?_
  rotate_left 1
  · intro w hSw; obtain ⟨⟨x0, x1, x2, x3, xl⟩, ⟨y0, y1, y2, y3, yl⟩, ⟨z0, z1, z2, z3, zl⟩⟩ := hSw; go_simp; (try with_reducible rfl)
  (try simp only [Act.put, List.setIfInBounds_toArray, List.set_cons_zero, List.set_cons_succ])
  refine wpAnyH_take (i := 30) (v := ?_) (by simp only [List.getElem?_toArray, List.getElem?_cons_succ, List.getElem?_cons_zero]; rfl) (by kernel_rfl) (by kernel_rfl) (by kernel_rfl) (by exact fun _ _ _ h => h) (Or.inl ⟨by rfl, ?_⟩) (by assumption) ?_
  rotate_left 1
  · intro w hSw; obtain ⟨⟨x0, x1, x2, x3, xl⟩, ⟨y0, y1, y2, y3, yl⟩, ⟨z0, z1, z2, z3, zl⟩⟩ := hSw; go_simp; (try with_reducible rfl)
  (try simp only [Act.put, List.setIfInBounds_toArray, List.set_cons_zero, List.set_cons_succ])
  refine wpAnyH_take (i := 32) (v := ?_) (by simp only [List.getElem?_toArray, List.getElem?_cons_succ, List.getElem?_cons_zero]; rfl) (by kernel_rfl) (by kernel_rfl) (by kernel_rfl) (by exact fun _ _ _ h => h) (Or.inl ⟨by rfl, ?_⟩) (by assumption) ?_
  rotate_left 1
  · intro w hSw; obtain ⟨⟨x0, x1, x2, x3, xl⟩, ⟨y0, y1, y2, y3, yl⟩, ⟨z0, z1, z2, z3, zl⟩⟩ := hSw; go_simp; (try with_reducible rfl)
  (try simp only [Act.put, List.setIfInBounds_toArray, List.set_cons_zero, List.set_cons_succ])
  refine wpAnyH_take (i := 33) (v := ?_) (by simp only [List.getElem?_toArray, List.getElem?_cons_succ, List.getElem?_cons_zero]; rfl) (by kernel_rfl) (by kernel_rfl) (by kernel_rfl) (by exact fun _ _ _ h => h) (Or.inl ⟨by rfl, ?_⟩) (by assumption) ?_
  rotate_left 1
  · intro w hSw; obtain ⟨⟨x0, x1, x2, x3, xl⟩, ⟨y0, y1, y2, y3, yl⟩, ⟨z0, z1, z2, z3, zl⟩⟩ := hSw; go_simp; (try with_reducible rfl)
  (try simp only [Act.put, List.setIfInBounds_toArray, List.set_cons_zero, List.set_cons_succ])
  refine wpAnyH_ready (rs := [31]) (by kernel_rfl) (by simp) ?_
  refine AllReadyH.cons (by simp only [List.getElem?_toArray, List.getElem?_cons_succ, List.getElem?_cons_zero]; rfl) (fun Kq hKq => ?_) AllReadyH.nil
  go_simp
  refine (addressed_any t f k S mac _).mono ?_
  rintro e W13 ⟨rfl, hb⟩
  have hx : Box G1 t f k S W13 ∧ Box G6 da db dc dt W13 ∧ Box G7 da db dc dt W13 := ⟨Box.below hHeld.1 hb, Box.below hHeld.2.1 hb, Box.below hHeld.2.2 hb⟩
  replace hb0 := below_val hb0 hb0.size hb
  clear hb
  go_simp
  refine hKq.out _ _ (hx) (fun hHeld2 => ?_)
  clear hKq Kq hHeld
  (try simp only [Act.put, List.setIfInBounds_toArray, List.set_cons_zero, List.set_cons_succ])
  have hHeld := hHeld2
  clear hHeld2
  clear hx
  refine wpAnyH_ready (rs := [34]) (by kernel_rfl) (by simp) ?_
  refine AllReadyH.cons (by simp only [List.getElem?_toArray, List.getElem?_cons_succ, List.getElem?_cons_zero]; rfl) (fun Kq hKq => ?_) AllReadyH.nil
  go_simp
  refine (raddressed_any t f k S mac _).mono ?_
  rintro e W14 ⟨rfl, hb⟩
  have hx : Box G1 t f k S W14 ∧ Box G6 da db dc dt W14 ∧ Box G7 da db dc dt W14 := ⟨Box.below hHeld.1 hb, Box.below hHeld.2.1 hb, Box.below hHeld.2.2 hb⟩
  replace hb0 := below_val hb0 hb0.size hb
  clear hb
  go_simp
  refine hKq.out _ _ (hx) (fun hHeld2 => ?_)
  clear hKq Kq hHeld
  (try simp only [Act.put, List.setIfInBounds_toArray, List.set_cons_zero, List.set_cons_succ])
  have hHeld := hHeld2
  clear hHeld2
  clear hx
  refine wpAnyH_take (i := 35) (v := ?_) (by simp only [List.getElem?_toArray, List.getElem?_cons_succ, List.getElem?_cons_zero]; rfl) (by kernel_rfl) (by kernel_rfl) (by kernel_rfl) (by exact fun _ _ _ h => h) (Or.inl ⟨by rfl, ?_⟩) (by assumption) ?_
  rotate_left 1
  · intro w hSw; obtain ⟨⟨x0, x1, x2, x3, xl⟩, ⟨y0, y1, y2, y3, yl⟩, ⟨z0, z1, z2, z3, zl⟩⟩ := hSw; go_simp; (try with_reducible rfl)
  (try simp only [Act.put, List.setIfInBounds_toArray, List.set_cons_zero, List.set_cons_succ])
  refine wpAnyH_take (i := 36) (v := ?_) (by simp only [List.getElem?_toArray, List.getElem?_cons_succ, List.getElem?_cons_zero]; rfl) (by kernel_rfl) (by kernel_rfl) (by kernel_rfl) (by exact fun _ _ _ h => h) (Or.inl ⟨by rfl, ?_⟩) (by assumption) ?_
  rotate_left 1
  · intro w hSw; obtain ⟨⟨x0, x1, x2, x3, xl⟩, ⟨y0, y1, y2, y3, yl⟩, ⟨z0, z1, z2, z3, zl⟩⟩ := hSw; go_simp; (try with_reducible rfl)
  (try simp only [Act.put, List.setIfInBounds_toArray, List.set_cons_zero, List.set_cons_succ])
  refine wpAnyH_take (i := 37) (v := ?_) (by simp only [List.getElem?_toArray, List.getElem?_cons_succ, List.getElem?_cons_zero]; rfl) (by kernel_rfl) (by kernel_rfl) (by kernel_rfl) (by exact fun _ _ _ h => h) (Or.inl ⟨by rfl, ?_⟩) (by assumption) ?_
  rotate_left 1
  · intro w hSw; obtain ⟨⟨x0, x1, x2, x3, xl⟩, ⟨y0, y1, y2, y3, yl⟩, ⟨z0, z1, z2, z3, zl⟩⟩ := hSw; go_simp; (try with_reducible rfl)
  (try simp only [Act.put, List.setIfInBounds_toArray, List.set_cons_zero, List.set_cons_succ])
  refine wpAnyH_done (by kernel_rfl) ?_ _
  go_wp2_with fail
  go_ret
  exact ⟨rfl, hb0⟩
end Go.Proofs.YtldmkoicjpkdiaaDoor
