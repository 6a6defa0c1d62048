/- ranges.Same at two lists that read alike. -/
import Derived.Test.YtncjeleabpodaaaRgCount
import Derived.RegionTactic
import Derived.RegionIn
import Derived.BigRegionIn
namespace Go.Proofs.Ytncjeleabpodaaa
open Go.RowKit Go.Shelf
attribute [local go_sem] Oper.semAt_some
def smI (b : Option Addr) (n cb : Nat) (w : World) (_k : Nat) (W : World) : Prop := At w.heap.size 0 (.slice b n cb) W ∧ At (w.heap.size + 1) 0 (.bool false) W ∧ Below w.heap.size w W
theorem smI_own {b : Option Addr} {n cb : Nat} {w : World} {B : Nat} (hB : w.heap.size ≤ B) : OwnFrom B (smI b n cb w) := fun _ _ _ _ h hg hr => ⟨h.1.own hg (fun r e => (hr r e).2), h.2.1.own hg (fun r e => (hr r e).2), below_own h.2.2 hg hr (Nat.le_refl _) hB⟩
theorem sm_ne {R D : Nat} {v : Value} {W : World} (h : At R 0 v W) (hD : W.heap[D]? = some (.deferred (some []))) : R ≠ D := by
  rintro rfl
  have := h.1
  unfold World.cell? at this
  rw [hD] at this
  cases this
theorem sm_ret {n : Nat} {R : Ending → World → Prop} {tm : Array Value} {B D : Nat} {b : Bool} {W : World} (hD : W.heap[D]? = some (.deferred (some []))) (hv : At B 0 (.bool b) W)
    (hR : R (.returned (.bool b)) (W.putObj D (.deferred none))) (ht : tm.getD 4 undef = .pointer (some ⟨B, 0, none⟩) := by rfl) : bodyPostM Fence.wide n Try.prog Try.f41 R .ret { tmps := tm, defers := [{ target := .collected D, args := #[] }] } W := by
  refine ⟨by simp, .inl ⟨_, _, rfl, run_takeDeferred hD, ?_⟩⟩
  have c0 := (hv.own (grownBy_putObj' W D (.deferred none)) (fun r e => by cases e; exact ⟨_, hD, rfl⟩)).1
  refine ⟨.bool b, ?_, hR⟩
  rw [Array.getD_eq_getD_getElem?] at ht
  simp [results, Try.results41, go_sem, ht, c0]
set_option maxRecDepth 100000 in
set_option maxHeartbeats 1000000 in
theorem same_eq (w : World) (n₀ : Nat) (a b : Option Addr) (ca cb : Nat) (L : List Sp) (hc : SpAt w n₀ a L) (hd : SpAt w n₀ b L) (hn : n₀ ≤ w.heap.size) :
    Calls Try.prog 41 #[.slice a L.length ca, .slice b L.length cb] w fun e w' => e = .returned (.bool true) ∧ Below w.heap.size w w' := by
  have hb := (((Below.refl w.heap.size w).alloc (Nat.le_refl _) (.cells #[.slice b L.length cb] 29)).alloc (by simp) (.cells #[.bool false] 4)).alloc (by simp; omega) (.cells #[.slice a L.length ca] 101)
  have HB := Lib.hid hb
  have HS := Lib.hid (hc.below (hb.mono hn))
  have HD0 := Lib.hid hd
  have hsm := hc.small
  have hA : At w.heap.size 0 (.slice b L.length cb) (((w.alloc (.cells #[.slice b L.length cb] 29)).alloc (.cells #[.bool false] 4)).alloc (.cells #[.slice a L.length ca] 101)) := ((At.new (W := w) (vs := #[.slice b L.length cb]) 29 rfl rfl).alloc _).alloc _
  have hR : At (w.heap.size + 1) 0 (.bool false) (((w.alloc (.cells #[.slice b L.length cb] 29)).alloc (.cells #[.bool false] 4)).alloc (.cells #[.slice a L.length ca] 101)) := (At.new (W := w.alloc (.cells #[.slice b L.length cb] 29)) (vs := #[.bool false]) 4 (by simp) rfl).alloc _
  have HA := Lib.hid hA
  have HR := Lib.hid hR
  clear hb hc hd hA hR
  refine (callsIn_wide (n := 4)).1 ?_
  refine callsIn_of_wp_marks Try.func41 rfl trivial ?_ rfl
  simp only [Try.ntmps41, List.size_toArray, List.length_cons, List.length_nil, Nat.reduceAdd, Nat.reduceSub, Array.replicate_succ, Array.replicate_zero, List.push_toArray, List.append_toArray, List.nil_append, List.cons_append]
  refine wpIn_wide.2 ?_
  go_wp2_with fail
  refine (of_any _ _ _ _ _ rfl).mono ?_
  rintro e w1 ⟨rfl, rfl⟩
  generalize ((w.alloc (.cells #[.slice b L.length cb] 29)).alloc (.cells #[.bool false] 4)).alloc (.cells #[.slice a L.length ca] 101) = w2 at HB HS HA HR ⊢
  have hfl := field_set a L.length ca w2
  go_wp2_with fail
  refine (wpIn_wide (n := 4)).1 ?_
  have hsz := HB.out.size
  have hR1 := HR.out.lt
  refine wp_each (n₀ := n₀) (by omega) rfl rfl HS.out (by omega)
    (smI b L.length cb w) (fun _ _ _ => False) (smI_own (by omega)) (fun _ _ _ _ _ h _ _ => h.elim) ?start ?round ?done ?stop
  case start => exact ⟨HA.out, HR.out, HB.out⟩
  case round =>
    intro l k hk W hl hI
    have hWs := hI.2.2.size
    have HI := Lib.hid hI
    clear hI hfl
    gi_wp2
    refine ⟨(KeepsOthers.alloc _ _).from _, (Below.refl n₀ W).alloc (by omega) _, fun _ W2 => smI b L.length cb w k W2 ∧ At W.heap.size 0 (.int .i64 L[k].1) W2 ∧ At W.heap.size 1 (.int .i64 L[k].2) W2, ?_, ⟨⟨HI.out.1.alloc _, HI.out.2.1.alloc _, HI.out.2.2.alloc hWs _⟩, At.new _ rfl rfl, At.new _ rfl rfl⟩, ?_⟩
    · intro _ A A' row h hg hr
      exact ⟨smI_own (B := w2.heap.size) (by omega) _ _ _ _ h.1 hg hr, h.2.1.own hg (fun r e => (hr r e).2), h.2.2.own hg (fun r e => (hr r e).2)⟩
    · rintro W2 ⟨hI2, ⟨x0, f0⟩, ⟨x1, f1⟩⟩
      obtain ⟨b0, off, rfl, hb0, hcs⟩ := HD0.out.cells (by omega)
      obtain ⟨y0, y1⟩ := hcs k hk
      replace y0 := (hI2.2.2.cell (p := ⟨b0, _, none⟩) (by show b0 < w.heap.size; omega)).trans y0
      replace y1 := (hI2.2.2.cell (p := ⟨b0, _, none⟩) (by show b0 < w.heap.size; omega)).trans y1
      obtain ⟨s0, fs⟩ := hI2.1
      have HI2 := Lib.hid hI2
      have hkr : (k : Int) < (L.length : Int) := by omega
      clear hI2 f0 f1 HI hcs
      generalize L[k] = x at x0 x1 y0 y1
      obtain ⟨p1, p2⟩ := x
      dsimp only at x0 x1 y0 y1
      gi_wp2
      gi_region
      all_goals
        gi_wp2
        exact ⟨(keeps_below (Below.refl _ W2).drew).from _, (Below.refl n₀ W2).drew, HI2.out.1, HI2.out.2.1, HI2.out.2.2.drew⟩
  case done =>
    intro D W hD hI hDf
    obtain ⟨s0, fs⟩ := hI.2.1
    have HI := Lib.hid hI
    have HD := Lib.hid hDf
    have hD2 : w.heap.size ≤ D := by omega
    clear hI hDf hD
    go_wp2_with fail
    have hW := HI.out.2.1.set (.bool true)
    have hDs : (W.setCell ⟨w.heap.size + 1, 0, none⟩ (.bool true)).heap[D]? = some (.deferred (some [])) := (heap_setCell_other W ⟨w.heap.size + 1, 0, none⟩ D _ (fun e => sm_ne HI.out.2.1 HD.out e.symm)).trans HD.out
    exact sm_ret hDs hW ⟨rfl, below_take (HI.out.2.2.setCell (p := ⟨w.heap.size + 1, 0, none⟩) (by show w.heap.size ≤ w.heap.size + 1; omega) _) (Nat.le_refl _) hD2⟩
  case stop =>
    intro D c k W _ _ h
    exact h.elim
end Go.Proofs.Ytncjeleabpodaaa
