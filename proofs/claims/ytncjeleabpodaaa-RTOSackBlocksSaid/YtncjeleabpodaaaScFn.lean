/- The scoreboard's small methods. -/
import Derived.Test.YtncjeleabpodaaaScAt
namespace Go.Proofs.Ytncjeleabpodaaa
open Go.RowKit Go.Shelf
theorem clone_lst {lb : Nat} {L : List Sp} {a : Option Addr} {cap : Nat} {w : World} (h : LstAt lb L a cap w) :
    Calls Try.prog 57 #[.slice a L.length cap] w fun e w' => ∃ v, e = .returned v ∧ OwnSp w' w.heap.size v L ∧ Below w.heap.size w w' := by
  cases a with
  | none =>
    have hl : L = [] := by
      rcases Nat.eq_zero_or_pos L.length with e | e
      · exact List.eq_nil_of_length_eq_zero e
      · obtain ⟨_, _, e, _⟩ := h.1.cells e; cases e
    subst hl
    refine (clone_nil cap w).mono ?_
    rintro e w' ⟨he, rfl⟩
    exact ⟨_, he, OwnSp.nil _ _, Below.refl _ _⟩
  | some ad =>
    have e := h.2.2.2 ad rfl
    rw [e] at h ⊢
    exact clone_some _ _ cap L w h.1
theorem una1_any (C B : Nat) (u : Int) (w : World) (hC : w.cell? ⟨C, 0, none⟩ = some (.pointer (some ⟨B, 0, none⟩))) (hB : w.cell? ⟨B, 0, none⟩ = some (.int .i64 u)) :
    Calls Try.prog 67 #[.pointer (some ⟨C, 0, none⟩)] w fun e w' => e = .returned (.int .i64 u) ∧ w = w' := by
  go_enter Try.func67, Try.ntmps67
  go_wp2_with fail
  go_ret
  exact ⟨rfl, rfl⟩
theorem scuna_any (B lb : Nat) (s : Sc) (w : World) (h : ScAt B lb s w) :
    Calls Try.prog 28 #[.pointer (some ⟨B, 0, none⟩)] w fun e w' => e = .returned (.int .i64 s.una) ∧ Below w.heap.size w w' := by
  have hb := sgBel w (.cells #[.pointer (some ⟨B, 0, none⟩)] 42)
  obtain ⟨sa, sc, ga, gc, c0, c1, c2, c3, c4, -, -⟩ := (h.below hb).ats
  have HU := Lib.hid (una1_any w.heap.size B s.una (w.alloc (.cells #[.pointer (some ⟨B, 0, none⟩)] 42)) (At.new (W := w) (vs := #[.pointer (some ⟨B, 0, none⟩)]) _ rfl rfl).1 c0.1)
  have HB := Lib.hid hb
  clear hb c0 c1 c2 c3 c4 h
  go_enter Try.func28, Try.ntmps28
  go_wp2_with fail
  refine (unless_Una _ _ _ (fun v w' => v = .int .i64 s.una ∧ w.alloc (.cells #[.pointer (some ⟨B, 0, none⟩)] 42) = w') (HU.out.mono (by rintro e w' ⟨he, hw⟩; exact ⟨_, he, rfl, hw⟩))).mono ?_
  rintro e w1 ⟨v, rfl, rfl, rfl⟩
  go_wp2_with fail
  go_ret
  exact ⟨rfl, HB.out⟩
theorem next1_any (C B : Nat) (u : Int) (w : World) (hC : w.cell? ⟨C, 0, none⟩ = some (.pointer (some ⟨B, 0, none⟩))) (hB : w.cell? ⟨B, 1, none⟩ = some (.int .i64 u)) :
    Calls Try.prog 68 #[.pointer (some ⟨C, 0, none⟩)] w fun e w' => e = .returned (.int .i64 u) ∧ w = w' := by
  go_enter Try.func68, Try.ntmps68
  go_wp2_with fail
  go_ret
  exact ⟨rfl, rfl⟩
theorem scnext_any (B lb : Nat) (s : Sc) (w : World) (h : ScAt B lb s w) :
    Calls Try.prog 29 #[.pointer (some ⟨B, 0, none⟩)] w fun e w' => e = .returned (.int .i64 s.next) ∧ Below w.heap.size w w' := by
  have hb := sgBel w (.cells #[.pointer (some ⟨B, 0, none⟩)] 42)
  obtain ⟨sa, sc, ga, gc, c0, c1, c2, c3, c4, -, -⟩ := (h.below hb).ats
  have HU := Lib.hid (next1_any w.heap.size B s.next (w.alloc (.cells #[.pointer (some ⟨B, 0, none⟩)] 42)) (At.new (W := w) (vs := #[.pointer (some ⟨B, 0, none⟩)]) _ rfl rfl).1 c1.1)
  have HB := Lib.hid hb
  clear hb c0 c1 c2 c3 c4 h
  go_enter Try.func29, Try.ntmps29
  go_wp2_with fail
  refine (unless_Next _ _ _ (fun v w' => v = .int .i64 s.next ∧ w.alloc (.cells #[.pointer (some ⟨B, 0, none⟩)] 42) = w') (HU.out.mono (by rintro e w' ⟨he, hw⟩; exact ⟨_, he, rfl, hw⟩))).mono ?_
  rintro e w1 ⟨v, rfl, rfl, rfl⟩
  go_wp2_with fail
  go_ret
  exact ⟨rfl, HB.out⟩
theorem sacked1_any (C B lb : Nat) (s : Sc) (w : World) (hC : w.cell? ⟨C, 0, none⟩ = some (.pointer (some ⟨B, 0, none⟩))) (h : ScAt B lb s w) :
    Calls Try.prog 56 #[.pointer (some ⟨C, 0, none⟩)] w fun e w' => ∃ v, e = .returned v ∧ OwnSp w' w.heap.size v s.sk ∧ Below w.heap.size w w' := by
  obtain ⟨sa, sc, ga, gc, -, -, -, ⟨c3, -⟩, -, ls, -⟩ := h.ats
  have HCL := Lib.hid (clone_lst ls)
  clear h ls
  go_enter Try.func56, Try.ntmps56
  go_wp2_with fail
  refine (HCL.out).mono ?_
  rintro e w1 ⟨v, rfl, hO, hb⟩
  have HO := Lib.hid hO
  have HB := Lib.hid hb
  clear hO hb c3 hC HCL
  go_wp2_with fail
  go_ret
  exact ⟨v, rfl, HO.out, HB.out⟩
theorem scsacked_any (B lb : Nat) (s : Sc) (w : World) (h : ScAt B lb s w) :
    Calls Try.prog 24 #[.pointer (some ⟨B, 0, none⟩)] w fun e w' => ∃ v, e = .returned v ∧ OwnSp w' w.heap.size v s.sk ∧ Below w.heap.size w w' := by
  have hb := sgBel w (.cells #[.pointer (some ⟨B, 0, none⟩)] 42)
  have HU := Lib.hid (sacked1_any w.heap.size B lb s (w.alloc (.cells #[.pointer (some ⟨B, 0, none⟩)] 42)) (At.new (W := w) (vs := #[.pointer (some ⟨B, 0, none⟩)]) _ rfl rfl).1 (h.below hb))
  have HB := Lib.hid hb
  clear hb h
  go_enter Try.func24, Try.ntmps24
  go_wp2_with fail
  refine (unless_Sacked _ _ _ _ HU.out).mono ?_
  rintro e w1 ⟨v, rfl, hO, hb⟩
  have HO := Lib.hid (hO.mono HB.out.size)
  have HB2 := Lib.hid (HB.out.trans (hb.mono HB.out.size))
  clear hO hb HB HU
  go_wp2_with fail
  go_ret
  exact ⟨v, rfl, HO.out, HB2.out⟩
theorem chgNew {B : Nat} {w W : World} (h : Below w.heap.size w W) : Chg B w W := Chg.of_below h
set_option maxHeartbeats 1000000 in
theorem sent1_any (T C B lb : Nat) (s : Sc) (tt : Int) (w : World) (hT : w.cell? ⟨T, 0, none⟩ = some (.int .i64 tt)) (hC : w.cell? ⟨C, 0, none⟩ = some (.pointer (some ⟨B, 0, none⟩))) (h : ScAt B lb s w) :
    Calls Try.prog 76 #[.pointer (some ⟨T, 0, none⟩), .pointer (some ⟨C, 0, none⟩)] w fun e w' => ∃ v, e = .returned v ∧ v = .int .i64 (s.sentE tt) ∧ ScAt B lb (s.sent tt) w' ∧ Chg B w w' := by
  obtain ⟨sa, sc, ga, gc, -, ⟨c1, f1⟩, -, -, -, -, -⟩ := h.ats
  have HS := Lib.hid h
  clear h
  by_cases h1 : s.next ≤ tt
  · by_cases h2 : tt ≤ 1099511627776
    · have hb : s.sentB tt = true := by unfold Sc.sentB; rw [decide_eq_true_iff]; exact ⟨h1, h2⟩
      have HE := Lib.hid (show s.sentE tt = 0 ∧ s.sent tt = { s with next := tt } by unfold Sc.sentE Sc.sent; rw [if_pos hb, if_pos hb]; exact ⟨rfl, rfl⟩)
      clear hb
      go_enter Try.func76, Try.ntmps76
      go_wp2_with fail
      go_quiet (fail)
      go_wp2_with fail
      go_ret
      refine ⟨_, rfl, by rw [HE.out.1]; rfl, ?_, ?_⟩
      · rw [HE.out.2]
        exact (show ScAt B lb s (w.drewN nq) from HS.out.below ⟨rfl, rfl, rfl, Nat.le_refl _, fun _ _ => rfl⟩).set 1 _ rfl rfl (fun _ _ _ _ => rfl)
      · exact (show Chg B w (w.drewN nq) from ⟨rfl, rfl, rfl, Nat.le_refl _, fun _ _ _ => rfl⟩).setCell 1 _
    · have hb : s.sentB tt = false := by unfold Sc.sentB; rw [decide_eq_false_iff_not]; omega
      have HE := Lib.hid (show s.sentE tt = 140 ∧ s.sent tt = s by unfold Sc.sentE Sc.sent; rw [hb]; exact ⟨rfl, rfl⟩)
      clear hb
      go_enter Try.func76, Try.ntmps76
      go_wp2_with fail
      go_quiet (fail)
      go_wp2_with fail
      go_ret
      exact ⟨_, rfl, by rw [HE.out.1]; rfl, by rw [HE.out.2]; exact HS.out.below ⟨rfl, rfl, rfl, Nat.le_refl _, fun _ _ => rfl⟩, ⟨rfl, rfl, rfl, Nat.le_refl _, fun _ _ _ => rfl⟩⟩
  · have hb : s.sentB tt = false := by unfold Sc.sentB; rw [decide_eq_false_iff_not]; omega
    have HE := Lib.hid (show s.sentE tt = 140 ∧ s.sent tt = s by unfold Sc.sentE Sc.sent; rw [hb]; exact ⟨rfl, rfl⟩)
    have hd : decide (tt < s.next) = true := by rw [decide_eq_true_iff]; omega
    clear hb
    go_enter Try.func76, Try.ntmps76
    go_wp2_with fail
    go_quiet (fail)
    go_wp2_with fail
    go_ret
    exact ⟨_, rfl, by rw [HE.out.1]; rfl, by rw [HE.out.2]; exact HS.out.below ⟨rfl, rfl, rfl, Nat.le_refl _, fun _ _ => rfl⟩, ⟨rfl, rfl, rfl, Nat.le_refl _, fun _ _ _ => rfl⟩⟩
set_option maxHeartbeats 1000000 in
theorem scsent_any (B lb : Nat) (s : Sc) (tt : Int) (w : World) (h : ScAt B lb s w) :
    Calls Try.prog 37 #[.pointer (some ⟨B, 0, none⟩), .int .i64 tt] w fun e w' => e = .returned (.int .i64 (s.sentE tt)) ∧ ScAt B lb (s.sent tt) w' ∧ Chg B w w' := by
  have hb := ((Below.refl w.heap.size w).alloc (Nat.le_refl _) (.cells #[.pointer (some ⟨B, 0, none⟩)] 42)).alloc (by simp) (.cells #[.int .i64 tt] 3)
  have HU := Lib.hid (sent1_any (w.heap.size + 1) w.heap.size B lb s tt ((w.alloc (.cells #[.pointer (some ⟨B, 0, none⟩)] 42)).alloc (.cells #[.int .i64 tt] 3)) (At.new (W := w.alloc (.cells #[.pointer (some ⟨B, 0, none⟩)] 42)) (vs := #[.int .i64 tt]) _ (by simp) rfl).1 ((At.new (W := w) (vs := #[.pointer (some ⟨B, 0, none⟩)]) _ rfl rfl).alloc _).1 (h.below hb))
  have HB := Lib.hid (Chg.of_below (B := B) hb)
  clear hb h
  go_enter Try.func37, Try.ntmps37
  go_wp2_with fail
  refine (unless_Sent _ _ _ _ HU.out).mono ?_
  rintro e w1 ⟨v, rfl, rfl, hS, hc⟩
  have HS := Lib.hid hS
  have HC := Lib.hid (HB.out.trans hc)
  clear hS hc HB HU
  go_wp2_with fail
  go_ret
  exact ⟨rfl, HS.out, HC.out⟩
set_option maxHeartbeats 1000000 in
theorem sctimeout_any (B lb : Nat) (s : Sc) (w : World) (h : ScAt B lb s w) :
    Calls Try.prog 33 #[.pointer (some ⟨B, 0, none⟩)] w fun e w' => e = .returned (.tuple #[]) ∧ ScAt B lb s.timeout w' ∧ Chg B w w' := by
  obtain ⟨sa, sc, ga, gc, -, ⟨c1, f1⟩, ⟨c2, f2⟩, ⟨c3, f3⟩, ⟨c4, f4⟩, -, -⟩ := h.ats
  have HS := Lib.hid h
  clear h
  go_enter Try.func33, Try.ntmps33
  go_wp2_with fail
  go_end0
  refine ⟨rfl, ?_, (((Chg.refl B w).setCell 3 _).setCell 4 _).setCell 2 _⟩
  exact ((HS.out.setSk (LstAt.nil lb w)).setAg (LstAt.nil lb _)).set 2 _ rfl rfl (fun _ _ _ _ => rfl)
end Go.Proofs.Ytncjeleabpodaaa
