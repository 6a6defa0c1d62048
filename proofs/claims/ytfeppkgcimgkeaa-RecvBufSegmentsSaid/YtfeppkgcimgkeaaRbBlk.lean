/- recvbuf: Blocks. -/
import Derived.Test.YtfeppkgcimgkeaaRbSort
import Derived.Laws.EntriesVeiled
namespace Go.Proofs.Ytfeppkgcimgkeaa
open Go.RowKit Go.Shelf
/-- A slice of one's own is nil, or lies at the head of a block. -/
theorem OwnSp.cases {w : World} {base : Nat} {v : Value} {L : List Sp} (h : OwnSp w base v L) : (v = .slice none 0 0 ∧ L = []) ∨ ∃ g cap, v = .slice (some ⟨g, 0, none⟩) L.length cap ∧ base ≤ g ∧ g < w.heap.size ∧ L.length ≤ cap ∧ cap ≤ 9223372036854775807 := by
  rcases h.2 with ⟨rfl, hn⟩ | ⟨g, cap, cur, hv, hbg, hg, hnc, hcm, hcs, htake⟩
  · exact .inl ⟨rfl, List.eq_nil_of_length_eq_zero hn⟩
  · exact .inr ⟨g, cap, hv, hbg, (Array.getElem?_eq_some_iff.1 hg).1, hnc, by unfold maxLen at hcm; omega⟩
theorem SpAt.take {w : World} {n₀ : Nat} {a : Option Addr} {L : List Sp} (h : SpAt w n₀ a L) (k : Nat) : SpAt w n₀ a (L.take k) := by
  refine ⟨by have := h.small; rw [List.length_take]; omega, fun hl => ?_⟩
  rw [List.length_take] at hl
  obtain ⟨b, off, ha, hb, hc⟩ := h.cells (by omega)
  refine ⟨b, off, ha, hb, fun i hi => ?_⟩
  rw [List.length_take] at hi
  rw [List.getElem_take]
  exact hc i (by omega)
/-- What Blocks hands back: a slice of its own. -/
def BlkOut (w : World) (L : List Sp) (e : Ending) (w' : World) : Prop :=
  ∃ a cap, e = .returned (.slice a L.length cap) ∧ SpAt w' w'.heap.size a L ∧ L.length ≤ cap ∧ (∀ ad, a = some ad → w.heap.size ≤ ad.block ∧ ad = ⟨ad.block, ad.off, none⟩) ∧ Below w.heap.size w w'
theorem blocks_nil (w : World) : Calls Try.prog 24 #[.pointer none] w fun e w' => e = .returned (.slice none 0 0) ∧ Below w.heap.size w w' := by
  go_enter Try.func24, Try.ntmps24
  go_wp2
  go_ret
  exact ⟨rfl, (Below.refl _ _).alloc (Nat.le_refl _) _⟩
set_option maxRecDepth 100000 in
theorem blocks_any (B R lb : Nat) (b : Bx) (w : World) (h : BoxAt B R lb b w) (ok : b.Ok) :
    Calls Try.prog 24 #[.pointer (some ⟨B, 0, none⟩)] w (BlkOut w b.rep) := by
  obtain ⟨a, cap, -, -, -, ⟨c3, -⟩, ⟨c4, -⟩, hsp, hcap, hap⟩ := h.ats
  have hBl := h.lt.1
  have HSP := Lib.hid hsp
  have HOK := Lib.hid ok.canon
  have hcl : ∀ w', Below w.heap.size w w' → Calls Try.prog 42 #[.slice a b.bl.length cap] w' fun e w'' => ∃ v, e = .returned v ∧ OwnSp w'' w'.heap.size v b.bl ∧ Below w'.heap.size w' w'' := by
    intro w' hb'
    have hsp' := (hsp.below hb').mono hb'.size
    cases a with
    | none =>
      have hl : b.bl = [] := by
        rcases Nat.eq_zero_or_pos b.bl.length with e | e
        · exact List.eq_nil_of_length_eq_zero e
        · obtain ⟨bb, off, e, _⟩ := hsp.cells e; cases e
      rw [hl]
      refine (clone_nil cap w').mono ?_
      rintro e w'' ⟨he, rfl⟩
      exact ⟨_, he, OwnSp.nil _ _, Below.refl _ _⟩
    | some ad =>
      have := hap.1 ad rfl
      obtain ⟨blk, off, p⟩ := ad
      cases this
      exact clone_some blk off cap b.bl w' hsp'
  have HCL := Lib.hid hcl
  have HAP := Lib.hid hap
  clear hsp hap hcl h ok
  go_enter Try.func24, Try.ntmps24
  go_wp2_with fail
  obtain ⟨W2, hW2⟩ : ∃ W2, W2 = (w.alloc (.cells #[.pointer (some ⟨B, 0, none⟩)] 24)).alloc (.cells #[.func (.func 41) #[] #[.pointer (some ⟨w.heap.size, 0, none⟩)]] 71) := ⟨_, rfl⟩
  have hb2 : Below w.heap.size w W2 := by rw [hW2]; exact ((Below.refl _ w).alloc (Nat.le_refl _) _).alloc (by simp) _
  have hs2 : W2.heap.size = w.heap.size + 1 + 1 := by rw [hW2]; simp
  have hX : W2.cell? ⟨w.heap.size, 0, none⟩ = some (.pointer (some ⟨B, 0, none⟩)) := by rw [hW2]; simp
  have hF : W2.cell? ⟨w.heap.size + 1, 0, none⟩ = some (.func (.func 41) #[] #[.pointer (some ⟨w.heap.size, 0, none⟩)]) := by rw [hW2]; simp
  have hN := (hb2.cell (p := ⟨B, 4, none⟩) hBl).trans c4
  rw [← hW2]
  have HB2 := Lib.hid hb2
  clear hW2 c3 c4
  refine (HCL.out _ hb2).mono ?_
  clear hb2
  rintro e w1 ⟨v, rfl, hown, hb1⟩
  have gX := (hb1.cell (p := ⟨w.heap.size, 0, none⟩) (by simp; omega)).trans hX
  have gF := (hb1.cell (p := ⟨w.heap.size + 1, 0, none⟩) (by simp; omega)).trans hF
  have gN := (hb1.cell (p := ⟨B, 4, none⟩) (by simp; omega)).trans hN
  have HB1 := Lib.hid (HB2.out.trans (hb1.mono (by omega)))
  have hs1 := hb1.size
  clear hX hF hN hb1 HB2 HCL
  rcases OwnSp.cases hown with ⟨rfl, hl⟩ | ⟨g, cap', rfl, hg1, hg2, hg3, hg4⟩
  · have HL := Lib.hid hl
    clear hown hl
    go_wp2_with fail
    refine (sort_none _ _ _ _).mono ?_
    rintro e w2 ⟨rfl, rfl⟩
    go_wp2_with fail
    go_ret
    have er : b.rep = [] := by unfold Bx.rep orderL; rw [HL.out]; rfl
    exact ⟨none, 0, by rw [er]; rfl, by rw [er]; exact ⟨by simp, fun hl => by simp at hl⟩, by rw [er]; simp, fun ad e => (by cases e), HB1.out⟩
  · obtain ⟨hH, -⟩ := hown.holds
    have hsm := HSP.out.small
    have HSO := Lib.hid (sort_any b.nw g cap' b.bl (w.heap.size + 1) w.heap.size B w1 HOK.out hsm hH hg2 gF gX gN (by omega) (by omega) (by omega))
    obtain ⟨k, hk⟩ : ∃ k, k = b.bl.length := ⟨_, rfl⟩
    have HK := Lib.hid hk
    clear hH hown gX gF gN
    rw [← hk] at hg3 hcap hsm ⊢
    clear hk
    go_wp2_with fail
    rw [HK.out]
    refine HSO.out.mono ?_
    rintro e w2 ⟨rfl, hsp2, hb2⟩
    rw [← HK.out]
    have HS2 := Lib.hid hsp2
    have HB2 := Lib.hid (HB1.out.trans (hb2 w.heap.size (by omega) (by omega)))
    have HR := Lib.hid (show b.rep = (orderL b.nw b.bl).take 3 from rfl)
    have HRL := Lib.hid (show b.rep.length = min k 3 by rw [HK.out]; exact Bx.rep_length b)
    clear hsp2 hb2 HSO HB1
    go_wp2_with fail
    go_ret
    refine ⟨some ⟨g, 0, none⟩, cap', ?_, ?_, by rw [HRL.out]; omega, fun ad e => (by cases e; exact ⟨by show w.heap.size ≤ g; omega, rfl⟩), HB2.out⟩
    · show Ending.returned (Value.slice (some ⟨g, 0, none⟩) (min (k : Int) 3).toNat cap') = _
      rw [HRL.out, show (min (k : Int) 3).toNat = min k 3 by omega]
    · rw [HR.out]; exact HS2.out.take 3
end Go.Proofs.Ytfeppkgcimgkeaa
