/- CongestionGrowth: its walk. -/
import Derived.Test.YtnjfpkjfacopkaaDoorCgBnd
namespace Go.Proofs.YtnjfpkjfacopkaaDoor
open Go.RowKit
/-- The state and the recovery point after i calls, SetMSS left out. -/
def gRun (m : Int) (cs : Nat → Cl) : Nat → Cg × Int
  | 0 => (cg0 m, 0)
  | i + 1 => if (cs i).kind = 0 ∨ (cs i).kind = 1 ∨ (cs i).kind = 2 then ((gRun m cs i).1.call (cs i).kind (cs i).n (cs i).to, if (gRun m cs i).1.res (cs i).kind then (cs i).to else (gRun m cs i).2) else gRun m cs i
/-- What such states keep. -/
def Gk (m : Int) (c : Cg) (to : Int) : Prop := c.Ok ∧ c.mss = m ∧ m ≤ c.win ∧ m ≤ c.thr ∧ (c.on = true → c.pt = to) ∧ In64 to
theorem Gk.step {m : Int} {c : Cg} {to : Int} (h : Gk m c to) (k n u : Int) (hk : k = 0 ∨ k = 1 ∨ k = 2) (hu : In64 u) : Gk m (c.call k n u) (if c.res k then u else to) := by
  obtain ⟨ok, e, a, b, d, f⟩ := h
  have ok2 := Cg.call_ok ok k n hu
  obtain ⟨m1, m2, w1, w2, t1, t2, p1, p2⟩ := ok
  rcases hk with rfl | rfl | rfl
  · have hr : c.res 0 = false := rfl
    rw [hr]
    refine ⟨ok2, ?_, ?_, ?_, ?_, f⟩
    all_goals
      show _
      unfold Cg.call
      rw [if_pos rfl]
      unfold Cg.acked
    · split
      · split <;> exact e
      · split
        · exact e
        · split <;> exact e
    · split
      · split
        · exact b
        · exact a
      · split
        · exact a
        · split
          · dsimp only; omega
          · have := (avoidV_bd m1 m2 w1).1
            dsimp only; omega
    · split
      · split <;> exact b
      · split
        · exact b
        · split <;> exact b
    · split
      · split
        · intro h; cases h
        · exact d
      · rename_i ho
        split
        · exact d
        · split <;> exact fun h => absurd h ho
  · by_cases ho : c.on = true
    · have hr : c.res 1 = false := by unfold Cg.res; rw [if_pos rfl, ho]; rfl
      have hl : c.call 1 n u = c := by unfold Cg.call; rw [if_neg (by decide), if_pos rfl]; unfold Cg.lost; rw [if_pos ho]
      rw [hr, hl]
      exact ⟨by rw [← hl]; exact ok2, e, a, b, d, f⟩
    · have hr : c.res 1 = true := by unfold Cg.res; rw [if_pos rfl]; simpa using ho
      have hl : c.call 1 n u = { c with thr := halfV c.mss n, win := halfV c.mss n, on := true, pt := u } := by unfold Cg.call; rw [if_neg (by decide), if_pos rfl]; unfold Cg.lost; rw [if_neg ho]
      rw [hr]
      refine ⟨ok2, ?_, ?_, ?_, ?_, hu⟩
      all_goals rw [hl]
      · exact e
      · unfold halfV; dsimp only; omega
      · unfold halfV; dsimp only; omega
      · intro _; rfl
  · have hr : c.res 2 = false := rfl
    have hl : c.call 2 n u = c.timeout n := rfl
    rw [hr]
    refine ⟨ok2, ?_, ?_, ?_, ?_, f⟩
    all_goals rw [hl]
    · exact e
    · unfold Cg.timeout; dsimp only; omega
    · unfold Cg.timeout halfV; dsimp only; omega
    · intro h; cases h
theorem box3 (w : World) (x y z : Value) (t : TypeId) : (w.alloc (.cells #[x, y, z] t)).cell? ⟨w.heap.size, 0, none⟩ = some x ∧ (w.alloc (.cells #[x, y, z] t)).cell? ⟨w.heap.size, 1, none⟩ = some y ∧ (w.alloc (.cells #[x, y, z] t)).cell? ⟨w.heap.size, 2, none⟩ = some z := by
  refine ⟨?_, ?_, ?_⟩ <;> (rw [cell_of_row _ _ _ _ _ _ (heap_alloc_new _ _)]; rfl)
theorem gRun_ok {m : Int} (h1 : 28 ≤ m) (h2 : m ≤ 1024) (cs : Nat → Cl) (len : Nat) (h : ∀ i, i < len → (cs i).Okay) : ∀ k, k ≤ len → Gk m (gRun m cs k).1 (gRun m cs k).2
  | 0, _ => ⟨cg0_ok h1 h2, rfl, by unfold gRun cg0; dsimp only; omega, by unfold gRun cg0; dsimp only; omega, (fun h => by cases h), by unfold gRun In64; dsimp only; omega⟩
  | k + 1, hk => by
    have ih := gRun_ok h1 h2 cs len h k (by omega)
    unfold gRun
    by_cases c : (cs k).kind = 0 ∨ (cs k).kind = 1 ∨ (cs k).kind = 2
    · rw [if_pos c]; exact ih.step _ _ _ c (h k (by omega)).2.2
    · rw [if_neg c]; exact ih
theorem grow_off {m : Int} {c : Cg} {to : Int} (h : Gk m c to) (ho : c.on = false) (n u : Int) : (c.acked n u).on = false ∧ c.win ≤ (c.acked n u).win ∧ (c.acked n u).win ≤ c.win + m := by
  obtain ⟨⟨m1, m2, w1, w2, t1, t2, p1, p2⟩, e, a, b, d, f⟩ := h
  unfold Cg.acked
  rw [if_neg (by rw [ho]; decide)]
  split
  · exact ⟨ho, by omega, by omega⟩
  · split
    · exact ⟨ho, by dsimp only; omega, by dsimp only; omega⟩
    · have x := (avoidV_bd m1 m2 w1).1
      have y := avoidV_mss m1 w1 (by omega : c.mss ≤ c.win)
      exact ⟨ho, by dsimp only; omega, by dsimp only; omega⟩
theorem grow_wait {c : Cg} (ho : c.on = true) {u : Int} (hu : u < c.pt) (n : Int) : c.acked n u = c := by
  unfold Cg.acked; rw [if_pos ho, if_neg (by omega)]
theorem grow_end {c : Cg} (ho : c.on = true) {u : Int} (hu : c.pt ≤ u) (n : Int) : (c.acked n u).on = false := by
  unfold Cg.acked; rw [if_pos ho, if_pos hu]
set_option maxRecDepth 100000 in
set_option maxHeartbeats 8000000 in
theorem walk_CongestionGrowth (w : World) (m : Int) (wm : (Lit.int .i64 m).wf = true) (a : Option Addr) (len cap : Nat) (cs : Nat → Cl) (hcs : IsCalls w a len cs) (hL : ∃ a, ErrS a w) :
    Calls Tryd.prog 7 #[.int .i64 m, .slice a len cap] w fun r w' => r = .returned (.bool true) ∧ Below w.heap.size w w' := by
  obtain ⟨ea, he⟩ := hL
  obtain ⟨m1, m2⟩ := bounds_i64 wm
  have hmax := hcs.1
  unfold maxLen at hmax
  have hoks : ∀ i, i < len → (cs i).Okay := by
    intro i hi
    obtain ⟨b, off, _, _, hc⟩ := hcs.2 (by omega)
    exact (hc i hi).2.2.2
  have HCS := Lib.hid hcs
  have HG := Lib.hid he.2
  have HOK := Lib.hid hoks
  obtain ⟨p1, p2⟩ := pickV_bd m 997 (by omega)
  clear hcs hoks wm
  go_enter Tryd.func7, Tryd.ntmps7
  go_wp2_with fail
  refine (sane_any ea _ he).mono ?_
  rintro e w1 ⟨rfl, hB⟩
  replace he := he.below hB HG.out
  go_wp2_with fail
  refine (size_any m _ m1 m2).mono ?_
  rintro e w2 ⟨rfl, rfl⟩
  generalize pickV m 997 = pm at *
  obtain ⟨ms, hms⟩ : ∃ ms : Int, 28 + pm = ms := ⟨_, rfl⟩
  rw [hms]
  have s1 : 28 ≤ ms := by omega
  have s2 : ms ≤ 1024 := by omega
  clear hms p1 p2
  have HF := Lib.hid (gRun_ok s1 s2 cs len HOK.out)
  go_wp2_with fail
  refine (new_good ms ea _ he s1 s2).mono ?_
  rintro e w3 ⟨rfl, h, hb⟩
  have hN : w.heap.size ≤ w1.heap.size := hB.size
  have hBg : 0 < w1.heap.size := Nat.lt_of_lt_of_le HG.out hN
  replace he := he.below hb hBg
  replace hB := below_val hB hB.size hb
  have HNE := Lib.hid (show 0 ≠ w1.heap.size by omega)
  clear hb hBg
  generalize w1.heap.size = B at *
  go_wp2_with fail
  go_loopw [8, 9] (fun v i wr => ∃ k : Nat, k ≤ len ∧ k ≤ 40 ∧ i = .int .i64 k ∧ v = .int .i64 (gRun ms cs k).2 ∧ Cng B (gRun ms cs k).1 wr ∧ ErrS ea wr ∧ Below w.heap.size w wr) (fun _ i _ => 40 - (intOf i).toNat)
  case atStart => exact ⟨0, Nat.zero_le _, by omega, rfl, rfl, h, he, hB⟩
  case round =>
    obtain ⟨k, hk1, hk2, rfl, rfl, hk, hek, hBk⟩ := hrel
    clear h he hB
    by_cases hlt : k < len
    · by_cases hl1 : k < 40
      · have gk := HF.out k (by omega)
        have HA := Lib.hid (show gRun ms cs (k + 1) = if (cs k).kind = 0 ∨ (cs k).kind = 1 ∨ (cs k).kind = 2 then ((gRun ms cs k).1.call (cs k).kind (cs k).n (cs k).to, if (gRun ms cs k).1.res (cs k).kind then (cs k).to else (gRun ms cs k).2) else gRun ms cs k from rfl)
        have HP := Lib.hid (show gRun ms cs k = ((gRun ms cs k).1, (gRun ms cs k).2) from rfl)
        have GS := Lib.hid (fun kd n u h1 h2 => gk.step kd n u h1 h2)
        have HGO := Lib.hid (fun h => grow_off gk h)
        have hmax2 := hmax
        generalize (gRun ms cs k).2 = to at *
        generalize (gRun ms cs k).1 = c at *
        obtain ⟨ok, hmss, gk1, gk2, gk3, gk4⟩ := gk
        have HPT := Lib.hid gk3
        clear gk3 hmss
        obtain ⟨ok1, ok2, ok3, ok4, -⟩ := id ok
        obtain ⟨b, off, rfl, hbs, hc⟩ := HCS.out.2 (by omega)
        obtain ⟨d0, d1, d2, d3, d4, d5⟩ := hc k hlt
        clear hc
        have g0 : wr.cell? ⟨b, off + k * 3, none⟩ = some (.int .i64 (cs k).kind) := (hBk.cell (p := ⟨b, _, none⟩) hbs).trans d0
        have g1 : wr.cell? ⟨b, off + k * 3 + 1, none⟩ = some (.int .i64 (cs k).n) := (hBk.cell (p := ⟨b, _, none⟩) hbs).trans d1
        have g2 : wr.cell? ⟨b, off + k * 3 + 2, none⟩ = some (.int .i64 (cs k).to) := (hBk.cell (p := ⟨b, _, none⟩) hbs).trans d2
        have f1 : (k : Int) < (len : Int) := by omega
        have f2 : (k : Int) < 40 := by omega
        generalize (cs k).kind = kd at *
        obtain ⟨d3a, d3b⟩ := d3
        by_cases c0 : kd = 0
        · subst c0
          have HA0 := Lib.hid (show gRun ms cs (k + 1) = (c.call 0 (cs k).n (cs k).to, to) by rw [HA.out, if_pos (Or.inl rfl)]; rfl)
          have HC := Lib.hid (show c.call 0 (cs k).n (cs k).to = c.acked (cs k).n (cs k).to from rfl)
          have okN := Cg.acked_ok ok (cs k).n (cs k).to
          have HRS := Lib.hid (show c.res 0 = false from rfl)
          clear HA
          by_cases ho : c.on = true
          · have HON := Lib.hid ho
            have hpt := HPT.out ho
            by_cases hto : (cs k).to < to
            · have HW := Lib.hid (grow_wait ho (by omega : (cs k).to < c.pt) (cs k).n)
              clear ho hpt
              go_wp2_with fail
              obtain ⟨z0, z1, z2⟩ := box3 wr (.int .i64 0) (.int .i64 (cs k).n) (.int .i64 (cs k).to) 39
              have hW := hk.alloc (.cells #[.int .i64 0, .int .i64 (cs k).n, .int .i64 (cs k).to] 39)
              have heW := hek.below ((Below.refl wr.heap.size wr).alloc (Nat.le_refl _) (.cells #[.int .i64 0, .int .i64 (cs k).n, .int .i64 (cs k).to] 39)) hek.2
              have hBW := below_val hBk hBk.size ((Below.refl wr.heap.size wr).alloc (Nat.le_refl _) (.cells #[.int .i64 0, .int .i64 (cs k).n, .int .i64 (cs k).to] 39))
              have hCl : wr.heap.size < (wr.alloc (.cells #[.int .i64 0, .int .i64 (cs k).n, .int .i64 (cs k).to] 39)).heap.size := by simp
              have hCt : wr.heap.size ≠ B := by have := hk.lt; omega
              clear hk hek hBk g0 g1 g2
              generalize wr.alloc (.cells #[.int .i64 0, .int .i64 (cs k).n, .int .i64 (cs k).to] 39) = W0 at *
              generalize wr.heap.size = C at *
              refine (window_any B _ _ hW).mono ?_
              rintro e w4 ⟨rfl, rfl⟩
              go_wp2_with fail
              refine (recovering_any B _ ok _ hW).mono ?_
              rintro e w4 ⟨rfl, rfl⟩
              go_wp2_with fail
              refine (done_any B c 0 (cs k).n (cs k).to (by unfold In64; omega) d4 ok ea _ heW hW).mono ?_
              rintro e w5 ⟨rfl, hT, hc⟩
              have x0 : w5.cell? ⟨C, 0, none⟩ = some (.int .i64 0) := (hc.cell (p := ⟨C, 0, none⟩) hCl hCt).trans z0
              have x1 : w5.cell? ⟨C, 1, none⟩ = some (.int .i64 (cs k).n) := (hc.cell (p := ⟨C, 1, none⟩) hCl hCt).trans z1
              have x2 : w5.cell? ⟨C, 2, none⟩ = some (.int .i64 (cs k).to) := (hc.cell (p := ⟨C, 2, none⟩) hCl hCt).trans z2
              replace hBW := below_chg hBW hN hW.lt hc
              replace heW := heW.chg hc HNE.out
              clear hc hW z0 z1 z2
              rw [HRS.out, HON.out]
              rw [HC.out, HW.out] at hT
              go_wp2_with fail
              refine (window_any B _ _ hT).mono ?_
              rintro e w6 ⟨rfl, rfl⟩
              go_wp2_with fail
              refine (recovering_any B _ ok _ hT).mono ?_
              rintro e w7 ⟨rfl, rfl⟩
              rw [HON.out]
              go_wp2_with fail
              go_roundw
              case rel => exact ⟨k + 1, by omega, by omega, by go_num, by rw [HA0.out], by rw [HA0.out]; show Cng B (c.call 0 (cs k).n (cs k).to) _; rw [HC.out, HW.out]; exact hT, heW, hBW⟩
              case measure => simp [intOf]; omega
            · have HE := Lib.hid (grow_end ho (by omega : c.pt ≤ (cs k).to) (cs k).n)
              clear ho hpt
              go_wp2_with fail
              obtain ⟨z0, z1, z2⟩ := box3 wr (.int .i64 0) (.int .i64 (cs k).n) (.int .i64 (cs k).to) 39
              have hW := hk.alloc (.cells #[.int .i64 0, .int .i64 (cs k).n, .int .i64 (cs k).to] 39)
              have heW := hek.below ((Below.refl wr.heap.size wr).alloc (Nat.le_refl _) (.cells #[.int .i64 0, .int .i64 (cs k).n, .int .i64 (cs k).to] 39)) hek.2
              have hBW := below_val hBk hBk.size ((Below.refl wr.heap.size wr).alloc (Nat.le_refl _) (.cells #[.int .i64 0, .int .i64 (cs k).n, .int .i64 (cs k).to] 39))
              have hCl : wr.heap.size < (wr.alloc (.cells #[.int .i64 0, .int .i64 (cs k).n, .int .i64 (cs k).to] 39)).heap.size := by simp
              have hCt : wr.heap.size ≠ B := by have := hk.lt; omega
              clear hk hek hBk g0 g1 g2
              generalize wr.alloc (.cells #[.int .i64 0, .int .i64 (cs k).n, .int .i64 (cs k).to] 39) = W0 at *
              generalize wr.heap.size = C at *
              refine (window_any B _ _ hW).mono ?_
              rintro e w4 ⟨rfl, rfl⟩
              go_wp2_with fail
              refine (recovering_any B _ ok _ hW).mono ?_
              rintro e w4 ⟨rfl, rfl⟩
              go_wp2_with fail
              refine (done_any B c 0 (cs k).n (cs k).to (by unfold In64; omega) d4 ok ea _ heW hW).mono ?_
              rintro e w5 ⟨rfl, hT, hc⟩
              have x0 : w5.cell? ⟨C, 0, none⟩ = some (.int .i64 0) := (hc.cell (p := ⟨C, 0, none⟩) hCl hCt).trans z0
              have x1 : w5.cell? ⟨C, 1, none⟩ = some (.int .i64 (cs k).n) := (hc.cell (p := ⟨C, 1, none⟩) hCl hCt).trans z1
              have x2 : w5.cell? ⟨C, 2, none⟩ = some (.int .i64 (cs k).to) := (hc.cell (p := ⟨C, 2, none⟩) hCl hCt).trans z2
              replace hBW := below_chg hBW hN hW.lt hc
              replace heW := heW.chg hc HNE.out
              clear hc hW z0 z1 z2
              rw [HRS.out, HON.out]
              rw [HC.out] at hT
              generalize c.acked (cs k).n (cs k).to = cN at *
              go_wp2_with fail
              refine (window_any B _ _ hT).mono ?_
              rintro e w6 ⟨rfl, rfl⟩
              obtain ⟨y1, y2, y3, y4, -⟩ := id okN
              go_wp2_with fail
              refine (recovering_any B _ okN _ hT).mono ?_
              rintro e w7 ⟨rfl, rfl⟩
              rw [HE.out]
              go_wp2_with fail
              go_roundw
              case rel => exact ⟨k + 1, by omega, by omega, by go_num, by rw [HA0.out], by rw [HA0.out]; show Cng B (c.call 0 (cs k).n (cs k).to) _; rw [HC.out]; exact hT, heW, hBW⟩
              case measure => simp [intOf]; omega
          · have ho' : c.on = false := by simpa using ho
            have HOFF := Lib.hid ho'
            obtain ⟨HE0, v1, v2⟩ := HGO.out ho' (cs k).n (cs k).to
            have HE := Lib.hid HE0
            clear ho ho' HE0
            go_wp2_with fail
            obtain ⟨z0, z1, z2⟩ := box3 wr (.int .i64 0) (.int .i64 (cs k).n) (.int .i64 (cs k).to) 39
            have hW := hk.alloc (.cells #[.int .i64 0, .int .i64 (cs k).n, .int .i64 (cs k).to] 39)
            have heW := hek.below ((Below.refl wr.heap.size wr).alloc (Nat.le_refl _) (.cells #[.int .i64 0, .int .i64 (cs k).n, .int .i64 (cs k).to] 39)) hek.2
            have hBW := below_val hBk hBk.size ((Below.refl wr.heap.size wr).alloc (Nat.le_refl _) (.cells #[.int .i64 0, .int .i64 (cs k).n, .int .i64 (cs k).to] 39))
            have hCl : wr.heap.size < (wr.alloc (.cells #[.int .i64 0, .int .i64 (cs k).n, .int .i64 (cs k).to] 39)).heap.size := by simp
            have hCt : wr.heap.size ≠ B := by have := hk.lt; omega
            clear hk hek hBk g0 g1 g2
            generalize wr.alloc (.cells #[.int .i64 0, .int .i64 (cs k).n, .int .i64 (cs k).to] 39) = W0 at *
            generalize wr.heap.size = C at *
            refine (window_any B _ _ hW).mono ?_
            rintro e w4 ⟨rfl, rfl⟩
            go_wp2_with fail
            refine (recovering_any B _ ok _ hW).mono ?_
            rintro e w4 ⟨rfl, rfl⟩
            go_wp2_with fail
            refine (done_any B c 0 (cs k).n (cs k).to (by unfold In64; omega) d4 ok ea _ heW hW).mono ?_
            rintro e w5 ⟨rfl, hT, hc⟩
            have x0 : w5.cell? ⟨C, 0, none⟩ = some (.int .i64 0) := (hc.cell (p := ⟨C, 0, none⟩) hCl hCt).trans z0
            have x1 : w5.cell? ⟨C, 1, none⟩ = some (.int .i64 (cs k).n) := (hc.cell (p := ⟨C, 1, none⟩) hCl hCt).trans z1
            have x2 : w5.cell? ⟨C, 2, none⟩ = some (.int .i64 (cs k).to) := (hc.cell (p := ⟨C, 2, none⟩) hCl hCt).trans z2
            replace hBW := below_chg hBW hN hW.lt hc
            replace heW := heW.chg hc HNE.out
            clear hc hW z0 z1 z2
            rw [HRS.out, HOFF.out]
            rw [HC.out] at hT
            generalize c.acked (cs k).n (cs k).to = cN at *
            go_wp2_with fail
            refine (window_any B _ _ hT).mono ?_
            rintro e w6 ⟨rfl, rfl⟩
            go_wp2_with fail
            refine (recovering_any B _ okN _ hT).mono ?_
            rintro e w7 ⟨rfl, rfl⟩
            rw [HE.out]
            go_wp2_with fail
            go_roundw
            case rel => exact ⟨k + 1, by omega, by omega, by go_num, by rw [HA0.out], by rw [HA0.out]; show Cng B (c.call 0 (cs k).n (cs k).to) _; rw [HC.out]; exact hT, heW, hBW⟩
            case measure => simp [intOf]; omega
        · by_cases c1 : kd = 1
          · subst c1
            clear c0
            by_cases ho : c.on = true
            · have HRS := Lib.hid (show c.res 1 = false by unfold Cg.res; rw [if_pos rfl, ho]; rfl)
              have HA0 := Lib.hid (show gRun ms cs (k + 1) = (c.call 1 (cs k).n (cs k).to, to) by rw [HA.out, if_pos (Or.inr (Or.inl rfl)), HRS.out]; rfl)
              have HON := Lib.hid ho
              clear HA ho
              go_wp2_with fail
              obtain ⟨z0, z1, z2⟩ := box3 wr (.int .i64 1) (.int .i64 (cs k).n) (.int .i64 (cs k).to) 39
              have hW := hk.alloc (.cells #[.int .i64 1, .int .i64 (cs k).n, .int .i64 (cs k).to] 39)
              have heW := hek.below ((Below.refl wr.heap.size wr).alloc (Nat.le_refl _) (.cells #[.int .i64 1, .int .i64 (cs k).n, .int .i64 (cs k).to] 39)) hek.2
              have hBW := below_val hBk hBk.size ((Below.refl wr.heap.size wr).alloc (Nat.le_refl _) (.cells #[.int .i64 1, .int .i64 (cs k).n, .int .i64 (cs k).to] 39))
              have hCl : wr.heap.size < (wr.alloc (.cells #[.int .i64 1, .int .i64 (cs k).n, .int .i64 (cs k).to] 39)).heap.size := by simp
              have hCt : wr.heap.size ≠ B := by have := hk.lt; omega
              clear hk hek hBk g0 g1 g2
              generalize wr.alloc (.cells #[.int .i64 1, .int .i64 (cs k).n, .int .i64 (cs k).to] 39) = W0 at *
              generalize wr.heap.size = C at *
              refine (window_any B _ _ hW).mono ?_
              rintro e w4 ⟨rfl, rfl⟩
              go_wp2_with fail
              refine (recovering_any B _ ok _ hW).mono ?_
              rintro e w4 ⟨rfl, rfl⟩
              go_wp2_with fail
              refine (done_any B c 1 (cs k).n (cs k).to (by unfold In64; omega) d4 ok ea _ heW hW).mono ?_
              rintro e w5 ⟨rfl, hT, hc⟩
              have x0 : w5.cell? ⟨C, 0, none⟩ = some (.int .i64 1) := (hc.cell (p := ⟨C, 0, none⟩) hCl hCt).trans z0
              have x1 : w5.cell? ⟨C, 1, none⟩ = some (.int .i64 (cs k).n) := (hc.cell (p := ⟨C, 1, none⟩) hCl hCt).trans z1
              have x2 : w5.cell? ⟨C, 2, none⟩ = some (.int .i64 (cs k).to) := (hc.cell (p := ⟨C, 2, none⟩) hCl hCt).trans z2
              replace hBW := below_chg hBW hN hW.lt hc
              replace heW := heW.chg hc HNE.out
              clear hc hW z0 z1 z2
              rw [HRS.out, HON.out]
              go_wp2_with fail
              refine (window_any B _ _ hT).mono ?_
              rintro e w6 ⟨rfl, rfl⟩
              go_wp2_with fail
              go_roundw
              case rel => exact ⟨k + 1, by omega, by omega, by go_num, by rw [HA0.out], by rw [HA0.out]; exact hT, heW, hBW⟩
              case measure => simp [intOf]; omega
            · have ho' : c.on = false := by simpa using ho
              have HRS := Lib.hid (show c.res 1 = true by unfold Cg.res; rw [if_pos rfl, ho']; rfl)
              have HA0 := Lib.hid (show gRun ms cs (k + 1) = (c.call 1 (cs k).n (cs k).to, (cs k).to) by rw [HA.out, if_pos (Or.inr (Or.inl rfl)), HRS.out]; rfl)
              have HON := Lib.hid ho'
              clear HA ho ho'
              go_wp2_with fail
              obtain ⟨z0, z1, z2⟩ := box3 wr (.int .i64 1) (.int .i64 (cs k).n) (.int .i64 (cs k).to) 39
              have hW := hk.alloc (.cells #[.int .i64 1, .int .i64 (cs k).n, .int .i64 (cs k).to] 39)
              have heW := hek.below ((Below.refl wr.heap.size wr).alloc (Nat.le_refl _) (.cells #[.int .i64 1, .int .i64 (cs k).n, .int .i64 (cs k).to] 39)) hek.2
              have hBW := below_val hBk hBk.size ((Below.refl wr.heap.size wr).alloc (Nat.le_refl _) (.cells #[.int .i64 1, .int .i64 (cs k).n, .int .i64 (cs k).to] 39))
              have hCl : wr.heap.size < (wr.alloc (.cells #[.int .i64 1, .int .i64 (cs k).n, .int .i64 (cs k).to] 39)).heap.size := by simp
              have hCt : wr.heap.size ≠ B := by have := hk.lt; omega
              clear hk hek hBk g0 g1 g2
              generalize wr.alloc (.cells #[.int .i64 1, .int .i64 (cs k).n, .int .i64 (cs k).to] 39) = W0 at *
              generalize wr.heap.size = C at *
              refine (window_any B _ _ hW).mono ?_
              rintro e w4 ⟨rfl, rfl⟩
              go_wp2_with fail
              refine (recovering_any B _ ok _ hW).mono ?_
              rintro e w4 ⟨rfl, rfl⟩
              go_wp2_with fail
              refine (done_any B c 1 (cs k).n (cs k).to (by unfold In64; omega) d4 ok ea _ heW hW).mono ?_
              rintro e w5 ⟨rfl, hT, hc⟩
              have x0 : w5.cell? ⟨C, 0, none⟩ = some (.int .i64 1) := (hc.cell (p := ⟨C, 0, none⟩) hCl hCt).trans z0
              have x1 : w5.cell? ⟨C, 1, none⟩ = some (.int .i64 (cs k).n) := (hc.cell (p := ⟨C, 1, none⟩) hCl hCt).trans z1
              have x2 : w5.cell? ⟨C, 2, none⟩ = some (.int .i64 (cs k).to) := (hc.cell (p := ⟨C, 2, none⟩) hCl hCt).trans z2
              replace hBW := below_chg hBW hN hW.lt hc
              replace heW := heW.chg hc HNE.out
              clear hc hW z0 z1 z2
              rw [HRS.out, HON.out]
              go_wp2_with fail
              refine (window_any B _ _ hT).mono ?_
              rintro e w6 ⟨rfl, rfl⟩
              go_wp2_with fail
              go_roundw
              case rel => exact ⟨k + 1, by omega, by omega, by go_num, by rw [HA0.out], by rw [HA0.out]; exact hT, heW, hBW⟩
              case measure => simp [intOf]; omega
          · by_cases c2 : kd = 2
            · subst c2
              clear c0 c1
              have HRS := Lib.hid (show c.res 2 = false from rfl)
              have HA0 := Lib.hid (show gRun ms cs (k + 1) = (c.call 2 (cs k).n (cs k).to, to) by rw [HA.out, if_pos (Or.inr (Or.inr rfl)), HRS.out]; rfl)
              clear HA
              go_wp2_with fail
              obtain ⟨z0, z1, z2⟩ := box3 wr (.int .i64 2) (.int .i64 (cs k).n) (.int .i64 (cs k).to) 39
              have hW := hk.alloc (.cells #[.int .i64 2, .int .i64 (cs k).n, .int .i64 (cs k).to] 39)
              have heW := hek.below ((Below.refl wr.heap.size wr).alloc (Nat.le_refl _) (.cells #[.int .i64 2, .int .i64 (cs k).n, .int .i64 (cs k).to] 39)) hek.2
              have hBW := below_val hBk hBk.size ((Below.refl wr.heap.size wr).alloc (Nat.le_refl _) (.cells #[.int .i64 2, .int .i64 (cs k).n, .int .i64 (cs k).to] 39))
              have hCl : wr.heap.size < (wr.alloc (.cells #[.int .i64 2, .int .i64 (cs k).n, .int .i64 (cs k).to] 39)).heap.size := by simp
              have hCt : wr.heap.size ≠ B := by have := hk.lt; omega
              clear hk hek hBk g0 g1 g2
              generalize wr.alloc (.cells #[.int .i64 2, .int .i64 (cs k).n, .int .i64 (cs k).to] 39) = W0 at *
              generalize wr.heap.size = C at *
              refine (window_any B _ _ hW).mono ?_
              rintro e w4 ⟨rfl, rfl⟩
              go_wp2_with fail
              refine (recovering_any B _ ok _ hW).mono ?_
              rintro e w4 ⟨rfl, rfl⟩
              go_wp2_with fail
              refine (done_any B c 2 (cs k).n (cs k).to (by unfold In64; omega) d4 ok ea _ heW hW).mono ?_
              rintro e w5 ⟨rfl, hT, hc⟩
              have x0 : w5.cell? ⟨C, 0, none⟩ = some (.int .i64 2) := (hc.cell (p := ⟨C, 0, none⟩) hCl hCt).trans z0
              have x1 : w5.cell? ⟨C, 1, none⟩ = some (.int .i64 (cs k).n) := (hc.cell (p := ⟨C, 1, none⟩) hCl hCt).trans z1
              have x2 : w5.cell? ⟨C, 2, none⟩ = some (.int .i64 (cs k).to) := (hc.cell (p := ⟨C, 2, none⟩) hCl hCt).trans z2
              replace hBW := below_chg hBW hN hW.lt hc
              replace heW := heW.chg hc HNE.out
              clear hc hW z0 z1 z2
              rw [HRS.out]
              generalize c.on = con
              go_wp2_with fail
              refine (window_any B _ _ hT).mono ?_
              rintro e w6 ⟨rfl, rfl⟩
              go_wp2_with fail
              go_roundw
              case rel => exact ⟨k + 1, by omega, by omega, by go_num, by rw [HA0.out], by rw [HA0.out]; exact hT, heW, hBW⟩
              case measure => simp [intOf]; omega
            · have HA0 := Lib.hid (show gRun ms cs (k + 1) = (c, to) by rw [HA.out, if_neg (by omega)]; exact HP.out)
              have b0 : (kd == 0) = false := by rw [beq_eq_false_iff_ne]; exact c0
              have b1 : (kd == 1) = false := by rw [beq_eq_false_iff_ne]; exact c1
              have b2 : (kd == 2) = false := by rw [beq_eq_false_iff_ne]; exact c2
              have n0 : (kd != 0) = true := by rw [bne_iff_ne]; exact c0
              have n1 : (kd != 1) = true := by rw [bne_iff_ne]; exact c1
              have n2 : (kd != 2) = true := by rw [bne_iff_ne]; exact c2
              clear HA c0 c1 c2
              have hkA := hk.alloc (.cells #[.int .i64 kd, .int .i64 (cs k).n, .int .i64 (cs k).to] 39)
              have heA := hek.below ((Below.refl wr.heap.size wr).alloc (Nat.le_refl _) (.cells #[.int .i64 kd, .int .i64 (cs k).n, .int .i64 (cs k).to] 39)) hek.2
              have hBA := below_val hBk hBk.size ((Below.refl wr.heap.size wr).alloc (Nat.le_refl _) (.cells #[.int .i64 kd, .int .i64 (cs k).n, .int .i64 (cs k).to] 39))
              go_wp2_with fail
              go_roundw
              case rel => exact ⟨k + 1, by omega, by omega, by go_num, by rw [HA0.out], by rw [HA0.out]; exact hkA, heA, hBA⟩
              case measure => simp [intOf]; omega
      · obtain rfl : k = 40 := by omega
        go_wp2_with fail
        go_ret
        exact ⟨rfl, hBk⟩
    · obtain rfl : k = len := by omega
      go_wp2_with fail
      go_ret
      exact ⟨rfl, hBk⟩
end Go.Proofs.YtnjfpkjfacopkaaDoor
