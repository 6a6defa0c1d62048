/- recvbuf: New, Len, Room. -/
import Derived.Test.YtfeppkgcimgkeaaRbPut
namespace Go.Proofs.Ytfeppkgcimgkeaa
open Go.RowKit Go.Shelf
theorem byteInfo : (Try.prog.info? 5).map (fun i => (i.zero, i.size, i.bytes)) = some (some (.int .u8 0), 1, 1) := by kernel_rfl
theorem ring_of_own {w : World} {base g n cap : Nat} {rg : List UInt8} (h : w.ownsRow base 5 1 (.slice (some ⟨g, 0, none⟩) n cap) n (Lib.byteCells rg)) (hc : cap = n) : RingAt g rg w := by
  rcases h.2 with ⟨e, _⟩ | ⟨g', cap', cur, e, _, hg, _, _, hcs, ht⟩
  · cases e
  · cases e
    subst hc
    rw [Nat.mul_one] at hcs ht
    rw [List.take_of_length_le (by rw [Array.length_toList]; omega)] at ht
    unfold RingAt
    rw [hg, ← ht]
set_option maxRecDepth 100000 in
theorem new_box (n : Nat) (h1 : 1 ≤ n) (h2 : n ≤ 8192) (w : World) :
    Calls Try.prog 11 #[.int .i64 n] w fun e w' => ∃ B R, e = .returned (.tuple #[.pointer (some ⟨B, 0, none⟩), .int .i64 0]) ∧ (∀ lb, BoxAt B R lb (bx0 n) w') ∧ Below w.heap.size w w' ∧ w.heap.size ≤ B ∧ w.heap.size ≤ R := by
  obtain ⟨i0, hi, hz0, hz1, hz2⟩ := info_parts byteInfo
  go_enter Try.func11, Try.ntmps11
  go_wp2_with (first | (at_make; refine wpList_make_full _ rfl _ _ _ rfl w.heap.size 5 i0 _ 1 Try.underlying22 hi hz0 hz1 _ _ _ _ n rfl rfl rfl rfl (by rw [hz2]; omega) (by unfold maxLen; omega) (Nat.le_refl _) ?_))
  intro w1 hown hgr
  have hR : RingAt w.heap.size (List.replicate n 0) w1 := by
    refine ring_of_own (base := w.heap.size) (n := n) (cap := n) ?_ rfl
    have e : (madeCells #[Value.int .u8 0] n).toList = Lib.byteCells (List.replicate n 0) := by
      apply List.ext_getElem
      · simp [madeCells, Lib.byteCells]
      · intro i h1 h2
        simp [madeCells, Lib.byteCells, Nat.mod_one]
    rw [← e]
    exact hown
  have hlt := (World.ownsRow.lt hown w.heap.size rfl).2
  have hb : Below w.heap.size w w1 := grown_below hgr (Nat.le_refl _) (fun k e => by cases e)
  have HR := Lib.hid hR
  have HB := Lib.hid hb
  clear hown hgr hR hb
  go_wp2_with fail
  refine bodyPost_ret (results_tmp2 rfl _ _ _) rfl ⟨w1.heap.size, w.heap.size, rfl, fun lb => ⟨by omega, ?_, none, 0, ?_, ⟨by simp [bx0], fun h => by simp [bx0] at h⟩, by simp [bx0], fun ad e => (by cases e), fun h => by simp [bx0] at h⟩, HB.out.alloc HB.out.size _, HB.out.size, Nat.le_refl _⟩
  · unfold RingAt
    rw [Below.heap_alloc _ _ _ hlt]
    exact HR.out
  · rw [heap_alloc_new]
    unfold bxCells bx0
    simp
theorem new_bad (n : Int) (h : n < 1 ∨ 8192 < n) (w : World) :
    Calls Try.prog 11 #[.int .i64 n] w fun e w' => e = .returned (.tuple #[.pointer none, .int .i64 130]) ∧ w = w' := by
  rcases h with h | h
  all_goals
    (try have h1 : 1 ≤ n := by omega)
    go_enter Try.func11, Try.ntmps11
    go_wp2_with fail
    exact bodyPost_ret (results_tmp2 rfl _ _ _) rfl ⟨rfl, rfl⟩
theorem bx0_ok (n : Nat) (h1 : 1 ≤ n) (h2 : n ≤ 8192) : (bx0 n).Ok := by
  have e : (bx0 n).ring.length = n := by simp [bx0]
  refine ⟨by omega, by omega, Int.le_refl _, Int.le_refl _, ?_, ?_, rfl, fun i hi => (mem_nil hi).elim⟩
  · rw [e]; show (0 : Int) ≤ 0 + n; omega
  · rw [e]; show (0 : Int) + n ≤ _; omega
theorem len_any (B R lb : Nat) (b : Bx) (w : World) (h : BoxAt B R lb b w) (ok : b.Ok) :
    Calls Try.prog 22 #[.pointer (some ⟨B, 0, none⟩)] w fun e w' => e = .returned (.int .i64 (b.nx - b.rd)) ∧ w' = w.drew := by
  obtain ⟨a, cap, -, ⟨c1, -⟩, ⟨c2, -⟩, -⟩ := h.ats
  have h1 := ok.rd0
  have h2 := ok.small
  have h3 := ok.most
  have h4 := ok.rdnx
  have h5 := ok.nxend
  go_enter Try.func22, Try.ntmps22
  go_wp2
  go_region
  all_goals
    go_wp2
    go_ret
    exact ⟨rfl, rfl⟩
theorem room_any (B R lb : Nat) (b : Bx) (w : World) (h : BoxAt B R lb b w) (ok : b.Ok) :
    Calls Try.prog 23 #[.pointer (some ⟨B, 0, none⟩)] w fun e w' => e = .returned (.int .i64 (b.rd + b.ring.length - b.nx)) ∧ w' = w.drew.drew := by
  obtain ⟨a, cap, -, -, ⟨c2, -⟩, -⟩ := h.ats
  have h1 := ok.rd0
  have h2 := ok.small
  have h3 := ok.most
  have h4 := ok.rdnx
  have h5 := ok.nxend
  have hw := IntWalk.i64_in (b.rd + (b.ring.length : Int) - b.nx) ⟨by omega, by omega⟩
  go_enter Try.func23, Try.ntmps23
  go_wp2_with fail
  go_region_with (first | (go_at_call 35; refine (end_any B R lb b _ h.drew ok).mono ?_; rintro e w' ⟨rfl, rfl⟩))
  all_goals
    go_wp2_with fail
    go_ret
    exact ⟨rfl, rfl⟩
end Go.Proofs.Ytfeppkgcimgkeaa
