/- The methods of a congestion state. -/
import Derived.Test.YtnjfpkjfacopkaaDoorCgMem
import Derived.Deep.QuietTactic
import Derived.BigQuiet
namespace Go.Proofs.YtnjfpkjfacopkaaDoor
open Go.RowKit
theorem Chg.of_same {B : Nat} {w w' : World} (h : w = w') : Chg B w w' := by subst h; exact Chg.refl _ _
/-- A call that leaves the world alone, inside a region that only reads. -/
theorem qs {P : Program} {f : FuncId} {args : Array Value} {w : World} {n : Nat} {v : Value}
    (h : Calls P f args (w.drewN n) fun e w' => e = .returned v ∧ w.drewN n = w') : Calls P f args (w.drewN n) fun e w'' => e = .returned v ∧ ∃ m, w'' = w.drewN m :=
  h.mono fun _ _ ⟨he, hm⟩ => ⟨he, n, hm.symm⟩
theorem Cng.drewN {B : Nat} {m : Cg} {w : World} (h : Cng B m w) (n : Nat) : Cng B m (w.drewN n) := h
theorem ErrS.drewN {a : Addr} {w : World} (h : ErrS a w) (n : Nat) : ErrS a (w.drewN n) := h
theorem Chg.drewN {B : Nat} {a w : World} (h : Chg B a w) (n : Nat) : Chg B a (w.drewN n) := ⟨h.os, h.tape, h.output, h.size, h.block⟩
set_option maxHeartbeats 800000 in
theorem new_good (m : Int) (a : Addr) (w : World) (he : ErrS a w) (h1 : 28 ≤ m) (h2 : m ≤ 1024) :
    Calls Tryd.prog 12 #[.int .i64 m] w fun e w' => e = .returned (.tuple #[.pointer (some ⟨w.heap.size, 0, none⟩), .int .i64 0]) ∧ Cng w.heap.size (cg0 m) w' ∧ Below w.heap.size w w' := by
  have h0 := he.1
  go_enter Tryd.func12, Tryd.ntmps12
  go_wp2_with fail
  go_region_with (first | (go_at_call 23; refine (check_good m _ (by omega) (by omega)).mono ?_; rintro e w1 ⟨rfl, rfl⟩) | (go_at_call 22; refine (is_nil a _).mono ?_; rintro e w1 ⟨rfl, rfl⟩))
  all_goals
    go_wp2_with fail
    go_ret2
    refine ⟨rfl, ?_, ?_⟩
    · exact ⟨_, heap_alloc_new _ _⟩
    · exact ((Below.refl _ _).alloc (Nat.le_refl _) _).drew
theorem new_bad (m : Int) (a : Addr) (w : World) (he : ErrS a w) (hm : m < 28 ∨ 1024 < m) :
    Calls Tryd.prog 12 #[.int .i64 m] w fun e w' => e = .returned (.tuple #[.pointer none, .int .i64 160]) ∧ Below w.heap.size w w' := by
  have h0 := he.1
  have HM := Lib.hid hm
  clear hm
  go_enter Tryd.func12, Tryd.ntmps12
  go_wp2_with fail
  go_region_with (first | (go_at_call 23; refine (check_bad m a _ ?_ HM.out).mono ?_; exact he; rintro e w1 ⟨rfl, rfl⟩) | (go_at_call 22; refine (is_same a _).mono ?_; rintro e w1 ⟨rfl, rfl⟩))
  all_goals
    go_wp2_with fail
    go_ret2
    exact ⟨rfl, (Below.refl _ _).drew⟩
set_option maxHeartbeats 800000 in
theorem window_any (B : Nat) (c : Cg) (w : World) (h : Cng B c w) :
    Calls Tryd.prog 14 #[.pointer (some ⟨B, 0, none⟩)] w fun e w' => e = .returned (.int .i64 c.win) ∧ w = w' := by
  go_enter Tryd.func14, Tryd.ntmps14
  go_wp2_with fail
  refine (made_any B c _ h).mono ?_
  rintro e w1 ⟨rfl, rfl⟩
  obtain ⟨c0, c1, c2, c3, c4, c5, c6⟩ := h.cells
  go_wp2_with fail
  go_ret
  exact ⟨rfl, rfl⟩
set_option maxHeartbeats 800000 in
theorem recovering_any (B : Nat) (c : Cg) (hok : c.Ok) (w : World) (h : Cng B c w) :
    Calls Tryd.prog 16 #[.pointer (some ⟨B, 0, none⟩)] w fun e w' => e = .returned (.bool c.on) ∧ w = w' := by
  go_enter Tryd.func16, Tryd.ntmps16
  go_wp2_with fail
  refine (made_any B c _ h).mono ?_
  rintro e w1 ⟨rfl, rfl⟩
  go_wp2_with fail
  refine (recovers_any B c hok _ h).mono ?_
  rintro e w2 ⟨rfl, rfl⟩
  go_wp2_with fail
  go_ret
  exact ⟨rfl, rfl⟩
set_option maxHeartbeats 800000 in
theorem lost_any (B : Nat) (c : Cg) (f n : Int) (hf : In64 f) (hok : c.Ok) (w : World) (h : Cng B c w) :
    Calls Tryd.prog 13 #[.pointer (some ⟨B, 0, none⟩), .int .i64 f, .int .i64 n] w fun e w' => e = .returned (.bool (!c.on)) ∧ Cng B (c.lost f n) w' ∧ Chg B w w' := by
  go_enter Tryd.func13, Tryd.ntmps13
  go_wp2_with fail
  refine (made_any B c _ h).mono ?_
  rintro e w1 ⟨rfl, rfl⟩
  go_wp2_with fail
  refine (recovers_any B c hok _ h).mono ?_
  rintro e w2 ⟨rfl, rfl⟩
  have hC : Chg B w w := Chg.refl _ _
  by_cases ho : c.on = true
  · have HM := Lib.hid (show c.lost f n = c by unfold Cg.lost; rw [if_pos ho])
    have HO := Lib.hid (show (!c.on) = false by rw [ho]; rfl)
    rw [ho]
    clear ho
    go_wp2_with fail
    go_ret
    exact ⟨by rw [HO.out]; rfl, by rw [HM.out]; exact h, hC⟩
  · have ho' : c.on = false := by simpa using ho
    have HM := Lib.hid (show c.lost f n = { c with thr := halfV c.mss f, win := halfV c.mss f, on := true, pt := n } by unfold Cg.lost; rw [if_neg ho])
    have HO := Lib.hid (show (!c.on) = true by rw [ho']; rfl)
    rw [ho']
    clear ho ho'
    go_wp2_with fail
    refine (reduce_any B c f hf hok _ h).mono ?_
    rintro e w3 ⟨rfl, hT, hc⟩
    obtain ⟨c0, c1, c2, c3, c4, c5, c6⟩ := hT.cells
    have g1 := hT.free 1
    have g3 := hT.free 3
    have g4 := hT.free 4
    replace hC := hC.trans hc
    go_wp2_with fail
    go_ret
    refine ⟨by rw [HO.out]; rfl, ?_, ((hC.setCell _ _).setCell _ _).setCell _ _⟩
    rw [HM.out]
    exact ((hT.set 1 _ { c with thr := halfV c.mss f, win := halfV c.mss f } rfl).set 3 _ { c with thr := halfV c.mss f, win := halfV c.mss f, on := true } rfl).set 4 _ _ rfl
set_option maxHeartbeats 800000 in
theorem timeout_any (B : Nat) (c : Cg) (f n : Int) (hf : In64 f) (hok : c.Ok) (w : World) (h : Cng B c w) :
    Calls Tryd.prog 17 #[.pointer (some ⟨B, 0, none⟩), .int .i64 f, .int .i64 n] w fun e w' => e = .returned (.tuple #[]) ∧ Cng B (c.timeout f) w' ∧ Chg B w w' := by
  go_enter Tryd.func17, Tryd.ntmps17
  go_wp2_with fail
  refine (made_any B c _ h).mono ?_
  rintro e w1 ⟨rfl, rfl⟩
  go_wp2_with fail
  have hC : Chg B w w := Chg.refl _ _
  refine (reduce_any B c f hf hok _ h).mono ?_
  rintro e w3 ⟨rfl, hT, hc⟩
  obtain ⟨c0, c1, c2, c3, c4, c5, c6⟩ := hT.cells
  have g1 := hT.free 1
  have g3 := hT.free 3
  have g4 := hT.free 4
  replace hC := hC.trans hc
  go_wp2_with fail
  go_end0
  refine ⟨rfl, ?_, ((hC.setCell _ _).setCell _ _).setCell _ _⟩
  exact ((hT.set 1 _ { c with thr := halfV c.mss f, win := c.mss } rfl).set 3 _ { c with thr := halfV c.mss f, win := c.mss, on := false } rfl).set 4 _ _ rfl
set_option maxHeartbeats 800000 in
theorem setMSS_any (B : Nat) (c : Cg) (m : Int) (a : Addr) (w : World) (he : ErrS a w) (h : Cng B c w) :
    Calls Tryd.prog 21 #[.pointer (some ⟨B, 0, none⟩), .int .i64 m] w fun e w' => e = .returned (.tuple #[]) ∧ Cng B (c.setMSS m) w' ∧ Chg B w w' := by
  have h0 := he.1
  obtain ⟨c0, c1, c2, c3, c4, c5, c6⟩ := h.cells
  clear c1 c2 c3 c4 c5 c6
  have g0 := h.free 0
  by_cases hm : m < 28 ∨ 1024 < m
  · have HM := Lib.hid (show c.setMSS m = c by unfold Cg.setMSS; rw [if_neg (by omega)])
    have HB := Lib.hid hm
    clear hm
    go_enter Tryd.func21, Tryd.ntmps21
    go_wp2_with fail
    go_quiet ((first | (go_at_call 26; exact qs (made_any B c _ (h.drewN _))) | (go_at_call 23; exact qs (check_bad m a _ (he.drewN _) HB.out)) | (go_at_call 22; exact qs (is_same a _))))
    all_goals
      go_wp2_with fail
      exact bodyPost_ret (results_none rfl _ _ _) rfl ⟨rfl, by rw [HM.out]; exact h, (Chg.refl _ _).drewN _⟩
  · have m1 : 28 ≤ m := by omega
    have m2 : m ≤ 1024 := by omega
    clear hm
    by_cases hlt : m < c.mss
    · have HM := Lib.hid (show c.setMSS m = { c with mss := m } by unfold Cg.setMSS; rw [if_pos (by omega)])
      have hl2 : ¬ c.mss ≤ m := by omega
      go_enter Tryd.func21, Tryd.ntmps21
      go_wp2_with fail
      go_quiet ((first | (go_at_call 26; exact qs (made_any B c _ (h.drewN _))) | (go_at_call 23; exact qs (check_good m _ (by omega) (by omega))) | (go_at_call 22; exact qs (is_nil a _))))
      all_goals
        go_wp2_with fail
        go_end0
        exact ⟨rfl, by rw [HM.out]; exact (h.drewN _).set 0 _ _ rfl, ((Chg.refl _ _).drewN _).setCell _ _⟩
    · have HM := Lib.hid (show c.setMSS m = c by unfold Cg.setMSS; rw [if_neg (by omega)])
      have hl2 : c.mss ≤ m := by omega
      go_enter Tryd.func21, Tryd.ntmps21
      go_wp2_with fail
      go_quiet ((first | (go_at_call 26; exact qs (made_any B c _ (h.drewN _))) | (go_at_call 23; exact qs (check_good m _ (by omega) (by omega))) | (go_at_call 22; exact qs (is_nil a _))))
      all_goals
        go_wp2_with fail
        exact bodyPost_ret (results_none rfl _ _ _) rfl ⟨rfl, by rw [HM.out]; exact h, (Chg.refl _ _).drewN _⟩
end Go.Proofs.YtnjfpkjfacopkaaDoor
