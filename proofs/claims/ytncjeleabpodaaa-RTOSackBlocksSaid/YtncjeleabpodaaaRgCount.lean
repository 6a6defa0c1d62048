/- ranges.Count. -/
import Derived.Test.YtncjeleabpodaaaRgKit
namespace Go.Proofs.Ytncjeleabpodaaa
open Go.RowKit Go.Shelf
attribute [local go_sem] Oper.semAt_some
theorem countF_take {L : List Sp} {k : Nat} (h : k < L.length) : countF (L.take (k + 1)) = countF (L.take k) + (L[k].2 - L[k].1) := by
  induction L generalizing k with
  | nil => simp at h
  | cons x L ih =>
    cases k with
    | zero => simp [countF]
    | succ k =>
      have := ih (k := k) (by simpa using h)
      simp only [List.take_succ_cons, countF, List.getElem_cons_succ, this]
      omega
theorem canonF_take {e : Int} {L : List Sp} (h : canonF e L = true) (k : Nat) : canonF e (L.take k) = true := by
  induction L generalizing e k with
  | nil => simp; exact h
  | cons x L ih =>
    cases k with
    | zero => rfl
    | succ k => rw [canonF_cons] at h; rw [List.take_succ_cons, canonF_cons]; exact ⟨h.1, ih h.2 k⟩
theorem canonF_nth {e : Int} {L : List Sp} (h : canonF e L = true) {k : Nat} (hk : k < L.length) : 0 ≤ L[k].1 ∧ L[k].1 < L[k].2 ∧ L[k].2 ≤ 1099511627776 := by
  induction L generalizing e k with
  | nil => simp at hk
  | cons x L ih =>
    rw [canonF_cons] at h
    cases k with
    | zero => exact ⟨h.1.1, h.1.2.2⟩
    | succ k => exact ih h.2 (by simpa using hk)
def cntI (S : Nat) (L : List Sp) (w : World) (k : Nat) (W : World) : Prop := At S 0 (.int .i64 (countF (L.take k))) W ∧ Below w.heap.size w W
theorem cntI_own {S : Nat} {L : List Sp} {w : World} {B : Nat} (hB : w.heap.size ≤ B) : OwnFrom B (cntI S L w) := fun _ _ _ _ h hg hr => ⟨h.1.own hg (fun r e => (hr r e).2), below_own h.2 hg hr (Nat.le_refl _) hB⟩
set_option maxRecDepth 100000 in
set_option maxHeartbeats 1000000 in
theorem count_any (w : World) (n₀ : Nat) (a : Option Addr) (cap : Nat) (L : List Sp) (hc : SpAt w n₀ a L) (hn : n₀ ≤ w.heap.size) :
    Calls Try.prog 30 #[.slice a L.length cap] w fun e w' => e = .returned (.int .i64 (countL L)) ∧ Below w.heap.size w w' := by
  have hb := ((Below.refl w.heap.size w).alloc (Nat.le_refl _) (.cells #[.slice a L.length cap] 101)).alloc (by simp) (.cells #[.slice a L.length cap] 101)
  have HB := Lib.hid hb
  have HS := Lib.hid (hc.below (hb.mono hn))
  have hsm := hc.small
  clear hb hc
  refine (callsIn_wide (n := 4)).1 ?_
  refine callsIn_of_wp_marks Try.func30 rfl trivial ?_ rfl
  simp only [Try.ntmps30, List.size_toArray, List.length_cons, List.length_nil, Nat.reduceAdd, Nat.reduceSub, Array.replicate_succ, Array.replicate_zero, List.push_toArray, List.append_toArray, List.nil_append, List.cons_append]
  refine wpIn_wide.2 ?_
  go_wp2_with fail
  refine (of_any _ _ _ _ _ rfl).mono ?_
  rintro e w1 ⟨rfl, rfl⟩
  go_wp2_with fail
  refine (canonical_any _ n₀ a cap L HS.out (by have := HB.out.size; omega)).mono ?_
  rintro e w2 ⟨rfl, hb2⟩
  have hz := hb2.cell (p := ⟨w.heap.size + 1, 0, none⟩) (by simp)
  have HS2 := Lib.hid (HS.out.below (hb2.mono (by have := HB.out.size; omega)))
  have HB2 := Lib.hid (HB.out.trans (hb2.mono HB.out.size))
  have hsz := hb2.size
  simp at hz hsz
  clear hb2 HB HS
  cases hcan : canonB L with
  | false =>
    go_wp2_with fail
    refine ret_plain rfl ⟨?_, HB2.out⟩
    show Ending.returned (Value.int .i64 0) = _
    unfold countL
    rw [hcan]; rfl
  | true =>
    have hz2 : (w2.alloc (.cells #[.int .i64 0] 3)).cell? ⟨w.heap.size + 1, 0, none⟩ = some (.slice a L.length cap) := (((Below.refl w2.heap.size w2).alloc (Nat.le_refl _) _).cell (p := ⟨w.heap.size + 1, 0, none⟩) (by show w.heap.size + 1 < _; omega)).trans hz
    go_wp2_with fail
    refine (wpIn_wide (n := 4)).1 ?_
    refine wp_each (n₀ := n₀) (by omega) rfl rfl (HS2.out.below ((Below.refl n₀ w2).alloc (by omega) _)) (by simp; omega)
      (cntI w2.heap.size L w) (fun _ _ _ => False) (cntI_own (by simp; omega)) (fun _ _ _ _ _ h _ _ => h.elim) ?start ?round ?done ?stop
    case start => exact ⟨At.new _ rfl rfl, HB2.out.alloc (by omega) _⟩
    case round =>
      intro l k hk W hl hI
      have hSl := hI.1.lt
      have hWs := hI.2.size
      have HI := Lib.hid hI
      clear hI
      gi_wp2
      refine ⟨(KeepsOthers.alloc _ _).from _, (Below.refl n₀ W).alloc (by omega) _, fun _ W2 => cntI w2.heap.size L w k W2 ∧ At W.heap.size 0 (.int .i64 L[k].1) W2 ∧ At W.heap.size 1 (.int .i64 L[k].2) W2, ?_, ⟨⟨HI.out.1.alloc _, HI.out.2.alloc (by omega) _⟩, At.new _ rfl rfl, At.new _ rfl rfl⟩, ?_⟩
      · intro _ A A' row h hg hr
        exact ⟨cntI_own (B := (w2.alloc (.cells #[.int .i64 0] 3)).heap.size) (by simp; omega) _ _ _ _ h.1 hg hr, h.2.1.own hg (fun r e => (hr r e).2), h.2.2.own hg (fun r e => (hr r e).2)⟩
      · rintro W2 ⟨hI2, ⟨x0, f0⟩, ⟨x1, f1⟩⟩
        obtain ⟨s0, fs⟩ := hI2.1
        have HI2 := Lib.hid hI2
        have b1 := canonF_nth hcan hk
        have b2 := countF_nonneg (canonF_take hcan k)
        have b3 := countF_nonneg (canonF_take hcan (k + 1))
        have HT := Lib.hid (countF_take hk)
        rw [HT.out] at b3
        clear hI2 f0 f1 HI
        gi_wp2
        refine ⟨(KeepsOthers.setCell _ _ _).from _, (Below.refl n₀ W2).setCell (p := ⟨w2.heap.size, 0, none⟩) (by show n₀ ≤ w2.heap.size; omega) _, ?_, HI2.out.2.setCell (p := ⟨w2.heap.size, 0, none⟩) (by show w.heap.size ≤ w2.heap.size; omega) _⟩
        rw [HT.out]
        exact HI2.out.1.set _
    case done =>
      intro D W hD hI hDf
      obtain ⟨s0, fs⟩ := hI.1
      have HI := Lib.hid hI
      have HD := Lib.hid hDf
      have hD2 : w.heap.size ≤ D := by simp at hD; omega
      clear hI hDf hD
      go_wp2_with fail
      refine ret_marks rfl HD.out ⟨?_, below_take HI.out.2 (Nat.le_refl _) hD2⟩
      show Ending.returned (Value.int .i64 (countF L)) = _
      unfold countL
      rw [if_pos hcan]
    case stop =>
      intro D c k W _ _ h
      exact h.elim
end Go.Proofs.Ytncjeleabpodaaa
