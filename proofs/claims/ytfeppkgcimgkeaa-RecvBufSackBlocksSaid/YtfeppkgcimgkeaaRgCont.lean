/- ranges.Contains. -/
import Derived.Test.YtfeppkgcimgkeaaRgCount
namespace Go.Proofs.Ytfeppkgcimgkeaa
open Go.RowKit Go.Shelf
attribute [local go_sem] Oper.semAt_some
def anyL (s : Sp) (L : List Sp) : Bool := L.any fun x => decide (x.1 ≤ s.1 ∧ s.2 ≤ x.2)
theorem anyL_take {s : Sp} {L : List Sp} {k : Nat} (h : k < L.length) : anyL s (L.take (k + 1)) = (anyL s (L.take k) || decide (L[k].1 ≤ s.1 ∧ s.2 ≤ L[k].2)) := by
  unfold anyL
  rw [List.take_succ_eq_append_getElem h, List.any_append]
  simp
theorem anyL_yes {s : Sp} {L : List Sp} {k : Nat} (h : k < L.length) (hk : L[k].1 ≤ s.1 ∧ s.2 ≤ L[k].2) : anyL s L = true := by
  unfold anyL
  rw [List.any_eq_true]
  exact ⟨L[k], List.getElem_mem h, by simpa using hk⟩
def conI (N : Nat) (s : Sp) (L : List Sp) (w : World) (k : Nat) (W : World) : Prop := At N 0 (.int .i64 s.1) W ∧ At N 1 (.int .i64 s.2) W ∧ At (N + 1) 0 (.bool false) W ∧ anyL s (L.take k) = false ∧ Below N w W
def conX (N : Nat) (s : Sp) (L : List Sp) (w : World) (c : Code) (_k : Nat) (W : World) : Prop := At (N + 1) 0 (.bool true) W ∧ anyL s L = true ∧ c = .ret ∧ Below N w W
theorem conI_own {N : Nat} {s : Sp} {L : List Sp} {w : World} {B : Nat} (hN : N ≤ w.heap.size) (hB : N ≤ B) : OwnFrom B (conI N s L w) := fun _ _ _ _ h hg hr => ⟨h.1.own hg (fun r e => (hr r e).2), h.2.1.own hg (fun r e => (hr r e).2), h.2.2.1.own hg (fun r e => (hr r e).2), h.2.2.2.1, below_own h.2.2.2.2 hg hr hN hB⟩
theorem conX_own {N : Nat} {s : Sp} {L : List Sp} {w : World} {B : Nat} (hN : N ≤ w.heap.size) (hB : N ≤ B) (c : Code) : OwnFrom B (conX N s L w c) := fun _ _ _ _ h hg hr => ⟨h.1.own hg (fun r e => (hr r e).2), h.2.1, h.2.2.1, below_own h.2.2.2 hg hr hN hB⟩
theorem conI_alloc {N : Nat} {s : Sp} {L : List Sp} {w : World} {k : Nat} {W : World} (h : conI N s L w k W) (hN : N ≤ W.heap.size) (o : Obj) : conI N s L w k (W.alloc o) := ⟨h.1.alloc o, h.2.1.alloc o, h.2.2.1.alloc o, h.2.2.2.1, h.2.2.2.2.alloc hN o⟩
theorem cont_ne {R D : Nat} {v : Value} {W : World} (h : At R 0 v W) (hD : W.heap[D]? = some (.deferred (some []))) : R ≠ D := by
  rintro rfl
  have := h.1
  unfold World.cell? at this
  rw [hD] at this
  cases this
theorem cont_ret {n : Nat} {R : Ending → World → Prop} {tm : Array Value} {B D : Nat} {b : Bool} {W : World} (hD : W.heap[D]? = some (.deferred (some []))) (hv : At B 0 (.bool b) W)
    (hR : R (.returned (.bool b)) (W.putObj D (.deferred none))) (ht : tm.getD 4 undef = .pointer (some ⟨B, 0, none⟩) := by rfl) : bodyPostM Fence.wide n Try.prog Try.f27 R .ret { tmps := tm, defers := [{ target := .collected D, args := #[] }] } W := by
  refine ⟨by simp, .inl ⟨_, _, rfl, run_takeDeferred hD, ?_⟩⟩
  have c0 := (hv.own (grownBy_putObj' W D (.deferred none)) (fun r e => by cases e; exact ⟨_, hD, rfl⟩)).1
  refine ⟨.bool b, ?_, hR⟩
  rw [Array.getD_eq_getD_getElem?] at ht
  simp [results, Try.results27, go_sem, ht, c0]
set_option maxRecDepth 100000 in
set_option maxHeartbeats 1000000 in
theorem contains_any (w : World) (n₀ : Nat) (a : Option Addr) (cap : Nat) (L : List Sp) (s : Sp) (hc : SpAt w n₀ a L) (hn : n₀ ≤ w.heap.size) :
    Calls Try.prog 27 #[.slice a L.length cap, .agg #[.int .i64 s.1, .int .i64 s.2]] w fun e w' => e = .returned (.bool (hasB L s)) ∧ Below w.heap.size w w' := by
  obtain ⟨s1, s2⟩ := s
  have hb := (((((Below.refl w.heap.size w).alloc (Nat.le_refl _) (.cells #[.int .i64 s1, .int .i64 s2] 51)).alloc (by simp) (.cells #[.bool false] 4)).alloc (by simp; omega) (.cells #[.slice a L.length cap] 77)).alloc (by simp; omega) (.cells #[.slice a L.length cap] 77))
  have HB := Lib.hid hb
  have HS := Lib.hid (hc.below (hb.mono hn))
  have hsm := hc.small
  clear hb hc
  refine (callsIn_wide (n := 4)).1 ?_
  refine callsIn_of_wp_marks Try.func27 rfl trivial ?_ rfl
  simp only [Try.ntmps27, List.size_toArray, List.length_cons, List.length_nil, Nat.reduceAdd, Nat.reduceSub, Array.replicate_succ, Array.replicate_zero, List.push_toArray, List.append_toArray, List.nil_append, List.cons_append]
  refine wpIn_wide.2 ?_
  go_wp2_with fail
  refine (of_any _ _ _ _ _ rfl).mono ?_
  rintro e w1 ⟨rfl, rfl⟩
  go_wp2_with fail
  refine (takes_any _ n₀ a cap L (s1, s2) HS.out (by have := HB.out.size; omega)).mono ?_
  rintro e w2 ⟨rfl, hb2⟩
  have hA0 : At w.heap.size 0 (.int .i64 s1) w2 := (((((At.new (W := w) (vs := #[.int .i64 s1, .int .i64 s2]) 51 rfl rfl).alloc _).alloc _).alloc _).below hb2 (by simp; omega))
  have hA1 : At w.heap.size 1 (.int .i64 s2) w2 := (((((At.new (W := w) (vs := #[.int .i64 s1, .int .i64 s2]) 51 rfl rfl).alloc _).alloc _).alloc _).below hb2 (by simp; omega))
  have hR0 : At (w.heap.size + 1) 0 (.bool false) w2 := ((((At.new (W := w.alloc (.cells #[.int .i64 s1, .int .i64 s2] 51)) (vs := #[.bool false]) 4 (by simp) rfl).alloc _).alloc _).below hb2 (by simp))
  have hz : At (w.heap.size + 1 + 1 + 1) 0 (.slice a L.length cap) w2 := ((At.new (W := ((w.alloc (.cells #[.int .i64 s1, .int .i64 s2] 51)).alloc (.cells #[.bool false] 4)).alloc (.cells #[.slice a L.length cap] 77)) (vs := #[.slice a L.length cap]) 77 (by simp) rfl).below hb2 (by simp))
  have HS2 := Lib.hid (HS.out.below (hb2.mono (by have := HB.out.size; omega)))
  have HB2 := Lib.hid (HB.out.trans (hb2.mono HB.out.size))
  have hsz := hb2.size
  simp at hsz
  clear hb2 HB HS
  obtain ⟨r0, r1⟩ := hR0
  cases htk : takesB L (s1, s2) with
  | false =>
    go_wp2_with fail
    have c0 := (At.set ⟨r0, r1⟩ (.bool false)).1
    refine ⟨.bool false, by simp [results, Try.results27, go_sem, c0], ?_, HB2.out.setCell (p := ⟨w.heap.size + 1, 0, none⟩) (by show w.heap.size ≤ w.heap.size + 1; omega) _⟩
    unfold hasB
    rw [htk]
    rfl
  | true =>
    have q1 := hz.1
    go_wp2_with fail
    refine (wpIn_wide (n := 4)).1 ?_
    refine wp_each (n₀ := n₀) (by omega) rfl rfl HS2.out (by omega)
      (conI w.heap.size (s1, s2) L w) (conX w.heap.size (s1, s2) L w) (conI_own (Nat.le_refl _) (by omega)) (conX_own (Nat.le_refl _) (by omega)) ?start ?round ?done ?stop
    case start => exact ⟨hA0, hA1, ⟨r0, r1⟩, rfl, HB2.out⟩
    case round =>
      intro l k hk W hl hI
      have hWs : w.heap.size + 1 < W.heap.size := hI.2.2.1.lt
      have HI := Lib.hid hI
      clear hI r0 r1 q1 hA0 hA1 hz
      gi_wp2
      refine ⟨(KeepsOthers.alloc _ _).from _, (Below.refl n₀ W).alloc (by omega) _, fun _ W2 => conI w.heap.size (s1, s2) L w k W2 ∧ At W.heap.size 0 (.int .i64 L[k].1) W2 ∧ At W.heap.size 1 (.int .i64 L[k].2) W2, ?_, ⟨conI_alloc HI.out (by omega) _, At.new _ rfl rfl, At.new _ rfl rfl⟩, ?_⟩
      · intro _ A A' row h hg hr
        exact ⟨conI_own (B := _) (Nat.le_refl _) (by first | omega | (simp; omega)) _ _ _ _ h.1 hg hr, h.2.1.own hg (fun r e => (hr r e).2), h.2.2.own hg (fun r e => (hr r e).2)⟩
      · rintro W2 ⟨hI2, ⟨x0, f0⟩, ⟨x1, f1⟩⟩
        obtain ⟨⟨d0, e0⟩, ⟨d1, e1⟩, ⟨d2, e2⟩, hno, hbl⟩ := id hI2
        have HI2 := Lib.hid hI2
        have HNO := Lib.hid hno
        clear hI2 HI hno hbl
        by_cases c1 : L[k].1 ≤ s1
        · by_cases c2 : s2 ≤ L[k].2
          · gi_wp2_with fail
            exact ⟨(KeepsOthers.setCell _ _ _).from _, HI2.out.2.2.1.set _, anyL_yes hk ⟨c1, c2⟩, rfl, HI2.out.2.2.2.2.setCell (p := ⟨w.heap.size + 1, 0, none⟩) (by show w.heap.size ≤ w.heap.size + 1; omega) _⟩
          · gi_wp2_with fail
            exact ⟨KeepsFrom.refl _ _, Below.refl _ _, HI2.out.1, HI2.out.2.1, HI2.out.2.2.1, by rw [anyL_take hk, HNO.out, Bool.false_or, decide_eq_false_iff_not]; dsimp only; omega, HI2.out.2.2.2.2⟩
        · gi_wp2_with fail
          exact ⟨KeepsFrom.refl _ _, Below.refl _ _, HI2.out.1, HI2.out.2.1, HI2.out.2.2.1, by rw [anyL_take hk, HNO.out, Bool.false_or, decide_eq_false_iff_not]; dsimp only; omega, HI2.out.2.2.2.2⟩
    case done =>
      intro D W hD hI hDf
      obtain ⟨s0, fs⟩ := hI.2.2.1
      have HI := Lib.hid hI
      have HD := Lib.hid hDf
      have hD2 : w.heap.size ≤ D := by omega
      clear hI hDf hD
      go_wp2_with fail
      have hW := HI.out.2.2.1.set (.bool false)
      have hDs : (W.setCell ⟨w.heap.size + 1, 0, none⟩ (.bool false)).heap[D]? = some (.deferred (some [])) := (heap_setCell_other W ⟨w.heap.size + 1, 0, none⟩ D _ (fun e => cont_ne HI.out.2.2.1 HD.out e.symm)).trans HD.out
      refine cont_ret hDs hW ⟨?_, below_take (HI.out.2.2.2.2.setCell (p := ⟨w.heap.size + 1, 0, none⟩) (by show w.heap.size ≤ w.heap.size + 1; omega) _) (Nat.le_refl _) hD2⟩
      unfold hasB
      rw [htk, Bool.true_and]
      have := HI.out.2.2.2.1
      rw [List.take_length] at this
      exact congrArg (fun b => Ending.returned (Value.bool b)) this.symm
    case stop =>
      rintro D c k W hD _ ⟨hR, hyes, rfl, hbl⟩ hDf
      have hD2 : w.heap.size ≤ D := by omega
      refine wpIn_wide.2 ?_
      have HR := Lib.hid hR
      have HD := Lib.hid hDf
      have HBL := Lib.hid hbl
      have HY := Lib.hid hyes
      clear hR hDf hbl hyes
      go_wp2_with fail
      refine cont_ret HD.out HR.out ⟨?_, below_take HBL.out (Nat.le_refl _) hD2⟩
      unfold hasB
      rw [htk, Bool.true_and]
      exact congrArg (fun b => Ending.returned (Value.bool b)) HY.out.symm
end Go.Proofs.Ytfeppkgcimgkeaa
