/- CongestionWindowBounds: its walk. -/
import Derived.Test.YtnjfpkjfacopkaaDoorCgDone
namespace Go.Proofs.YtnjfpkjfacopkaaDoor
open Go.RowKit
/-- The state after i calls. -/
def runC (m : Int) (cs : Nat → Cl) : Nat → Cg
  | 0 => cg0 m
  | i + 1 => (runC m cs i).call (cs i).kind (cs i).n (cs i).to
theorem runC_ok {m : Int} (h1 : 28 ≤ m) (h2 : m ≤ 1024) (cs : Nat → Cl) (len : Nat) (h : ∀ i, i < len → (cs i).Okay) : ∀ k, k ≤ len → (runC m cs k).Ok
  | 0, _ => cg0_ok h1 h2
  | k + 1, hk => Cg.call_ok (runC_ok h1 h2 cs len h k (by omega)) _ _ (h k (by omega)).2.2
set_option maxRecDepth 100000 in
set_option maxHeartbeats 8000000 in
theorem walk_CongestionWindowBounds (w : World) (m : Int) (wm : (Lit.int .i64 m).wf = true) (a : Option Addr) (len cap : Nat) (cs : Nat → Cl) (hcs : IsCalls w a len cs) (hL : ∃ a, ErrS a w) :
    Calls Tryd.prog 6 #[.int .i64 m, .slice a len cap] w fun r w' => r = .returned (.bool true) ∧ Below w.heap.size w w' := by
  obtain ⟨ea, he⟩ := hL
  obtain ⟨m1, m2⟩ := bounds_i64 wm
  have hmax := hcs.1
  unfold maxLen at hmax
  have hoks : ∀ i, i < len → (cs i).Okay := by
    intro i hi
    obtain ⟨b, off, _, _, hc⟩ := hcs.2 (by omega)
    exact (hc i hi).2.2.2
  have HCS := Lib.hid hcs
  have HG := Lib.hid he.2
  have HOK := Lib.hid hoks
  obtain ⟨p1, p2⟩ := pickV_bd m 997 (by omega)
  clear hcs hoks wm
  go_enter Tryd.func6, Tryd.ntmps6
  go_wp2_with fail
  refine (sane_any ea _ he).mono ?_
  rintro e w1 ⟨rfl, hB⟩
  replace he := he.below hB HG.out
  go_wp2_with fail
  refine (size_any m _ m1 m2).mono ?_
  rintro e w2 ⟨rfl, rfl⟩
  generalize pickV m 997 = pm at *
  obtain ⟨ms, hms⟩ : ∃ ms : Int, 28 + pm = ms := ⟨_, rfl⟩
  rw [hms]
  have s1 : 28 ≤ ms := by omega
  have s2 : ms ≤ 1024 := by omega
  clear hms p1 p2
  have HF := Lib.hid (runC_ok s1 s2 cs len HOK.out)
  go_wp2_with fail
  refine (new_good ms ea _ he s1 s2).mono ?_
  rintro e w3 ⟨rfl, h, hb⟩
  have hN : w.heap.size ≤ w1.heap.size := hB.size
  have hBg : 0 < w1.heap.size := Nat.lt_of_lt_of_le HG.out hN
  replace he := he.below hb hBg
  replace hB := below_val hB hB.size hb
  have HNE := Lib.hid (show 0 ≠ w1.heap.size by omega)
  clear hb hBg
  generalize w1.heap.size = B at *
  go_wp2_with fail
  go_loopw [8] (fun i wr => ∃ k : Nat, k ≤ len ∧ k ≤ 40 ∧ i = .int .i64 k ∧ Cng B (runC ms cs k) wr ∧ ErrS ea wr ∧ Below w.heap.size w wr) (fun i _ => 40 - (intOf i).toNat)
  case atStart => exact ⟨0, Nat.zero_le _, by omega, rfl, h, he, hB⟩
  case round =>
    obtain ⟨k, hk1, hk2, rfl, hk, hek, hBk⟩ := hrel
    clear h he hB
    by_cases hlt : k < len
    · by_cases hl1 : k < 40
      · have ok := HF.out k (by omega)
        have ok1 := HF.out (k + 1) (by omega)
        have HA := Lib.hid (show runC ms cs (k + 1) = (runC ms cs k).call (cs k).kind (cs k).n (cs k).to from rfl)
        generalize runC ms cs k = c at *
        obtain ⟨b, off, rfl, hbs, hc⟩ := HCS.out.2 (by omega)
        obtain ⟨d0, d1, d2, d3, d4, d5⟩ := hc k hlt
        clear hc
        have g0 : wr.cell? ⟨b, off + k * 3, none⟩ = some (.int .i64 (cs k).kind) := (hBk.cell (p := ⟨b, _, none⟩) hbs).trans d0
        have g1 : wr.cell? ⟨b, off + k * 3 + 1, none⟩ = some (.int .i64 (cs k).n) := (hBk.cell (p := ⟨b, _, none⟩) hbs).trans d1
        have g2 : wr.cell? ⟨b, off + k * 3 + 2, none⟩ = some (.int .i64 (cs k).to) := (hBk.cell (p := ⟨b, _, none⟩) hbs).trans d2
        have f1 : (k : Int) < (len : Int) := by omega
        have f2 : (k : Int) < 40 := by omega
        go_wp2_with fail
        refine (done_any B c _ _ _ d3 d4 ok ea _ hek hk).mono ?_
        rintro e w4 ⟨rfl, hT, hc⟩
        rw [← HA.out] at hT
        replace hBk := below_chg hBk hN hk.lt hc
        replace hek := hek.chg hc HNE.out
        clear hc hk g0 g1 g2
        obtain ⟨-, -, q1, q2, -⟩ := ok1
        go_wp2_with fail
        refine (window_any B _ _ hT).mono ?_
        rintro e w5 ⟨rfl, rfl⟩
        go_wp2_with fail
        refine (window_any B _ _ hT).mono ?_
        rintro e w6 ⟨rfl, rfl⟩
        go_wp2_with fail
        go_roundw
        case rel => exact ⟨k + 1, by omega, by omega, by go_num, hT, hek, hBk⟩
        case measure => simp [intOf]; omega
      · obtain rfl : k = 40 := by omega
        go_wp2_with fail
        go_ret
        exact ⟨rfl, hBk⟩
    · obtain rfl : k = len := by omega
      go_wp2_with fail
      go_ret
      exact ⟨rfl, hBk⟩
end Go.Proofs.YtnjfpkjfacopkaaDoor
