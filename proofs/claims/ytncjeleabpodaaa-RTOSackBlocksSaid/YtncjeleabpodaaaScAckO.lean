/- scoreboard.Acked. scoreboard.Acked, the method. -/
import Derived.Test.YtncjeleabpodaaaScFn
import Derived.Deep.LoopGhost
namespace Go.Proofs.Ytncjeleabpodaaa
open Go.RowKit Go.Shelf
theorem scwithin_any (B lb : Nat) (s : Sc) (x : Sp) (w : World) (h : ScAt B lb s w) :
    Calls Try.prog 72 #[.pointer (some ⟨B, 0, none⟩), .agg #[.int .i64 x.1, .int .i64 x.2]] w fun e w' => e = .returned (.bool (s.inB x)) ∧ Below w.heap.size w w' := by
  obtain ⟨x1, x2⟩ := x
  obtain ⟨sa, sc, ga, gc, -, ⟨c1, -⟩, -, -, -, -, -⟩ := h.ats
  have hl := h.lt
  have hb := sgBel w (.cells #[.int .i64 x1, .int .i64 x2] 51)
  have d1 := (hb.cell (p := ⟨B, 1, none⟩) hl).trans c1
  have HB := Lib.hid hb
  clear h hb c1
  by_cases h1 : 0 ≤ x1
  · by_cases h2 : x1 < x2
    · by_cases h3 : x2 ≤ s.next
      · have HR := Lib.hid (show s.inB (x1, x2) = true by rw [Sc.inB_iff]; exact ⟨h1, h2, h3⟩)
        rw [HR.out]
        go_enter Try.func72, Try.ntmps72
        go_wp2_with fail
        go_quiet (fail)
        go_wp2_with fail
        go_ret
        exact ⟨rfl, ⟨HB.out.os, HB.out.tape, HB.out.output, HB.out.size, HB.out.block⟩⟩
      · have HR := Lib.hid (show s.inB (x1, x2) = false by rw [← Bool.not_eq_true, Sc.inB_iff]; rintro ⟨-, -, h⟩; exact h3 h)
        rw [HR.out]
        have hd : decide (x2 ≤ s.next) = false := by rw [decide_eq_false_iff_not]; exact h3
        go_enter Try.func72, Try.ntmps72
        go_wp2_with fail
        go_quiet (fail)
        go_wp2_with fail
        go_ret
        exact ⟨rfl, ⟨HB.out.os, HB.out.tape, HB.out.output, HB.out.size, HB.out.block⟩⟩
    · have HR := Lib.hid (show s.inB (x1, x2) = false by rw [← Bool.not_eq_true, Sc.inB_iff]; rintro ⟨-, h, -⟩; exact h2 h)
      rw [HR.out]
      have hd : decide (x1 < x2) = false := by rw [decide_eq_false_iff_not]; exact h2
      go_enter Try.func72, Try.ntmps72
      go_wp2_with fail
      go_quiet (fail)
      go_wp2_with fail
      go_ret
      exact ⟨rfl, ⟨HB.out.os, HB.out.tape, HB.out.output, HB.out.size, HB.out.block⟩⟩
  · have HR := Lib.hid (show s.inB (x1, x2) = false by rw [← Bool.not_eq_true, Sc.inB_iff]; rintro ⟨h, -, -⟩; exact h1 h)
    rw [HR.out]
    have hd : decide (0 ≤ x1) = false := by rw [decide_eq_false_iff_not]; exact h1
    go_enter Try.func72, Try.ntmps72
    go_wp2_with fail
    go_quiet (fail)
    go_wp2_with fail
    go_ret
    exact ⟨rfl, ⟨HB.out.os, HB.out.tape, HB.out.output, HB.out.size, HB.out.block⟩⟩
/-- What the closure of Acked sees. -/
structure Ev (T C L R B lbs lbg : Nat) (s : Sc) (una : Int) (la : Option Addr) (lc : Nat) (ls : List Sp) (w W : World) : Prop where
  cT : W.cell? ⟨T, 0, none⟩ = some (.int .i64 una)
  cC : W.cell? ⟨C, 0, none⟩ = some (.pointer (some ⟨B, 0, none⟩))
  cL : W.cell? ⟨L, 0, none⟩ = some (.slice la ls.length lc)
  r0 : ∃ v, At R 0 v W
  r1 : ∃ v, At R 1 v W
  hs : ScAtG B lbs lbg s W
  hl : InL B la ls W
  chg : Chg B w W
  ne : T ≠ B ∧ C ≠ B ∧ L ≠ B ∧ R ≠ B
  rw_ : w.heap.size ≤ R
theorem Ev.to {T C L R B lbs lbg lbs' lbg' : Nat} {s s' : Sc} {una : Int} {la : Option Addr} {lc : Nat} {ls : List Sp} {w W W' : World} (h : Ev T C L R B lbs lbg s una la lc ls w W) (hc : Chg B W W') (hs : ScAtG B lbs' lbg' s' W') : Ev T C L R B lbs' lbg' s' una la lc ls w W' := by
  obtain ⟨n1, n2, n3, n4⟩ := h.ne
  obtain ⟨v0, h0⟩ := h.r0
  obtain ⟨v1, h1⟩ := h.r1
  exact ⟨cell_chg h.cT hc n1, cell_chg h.cC hc n2, cell_chg h.cL hc n3, ⟨v0, at_chg h0 hc n4⟩, ⟨v1, at_chg h1 hc n4⟩, hs, h.hl.chg hc, h.chg.trans hc, h.ne, h.rw_⟩
theorem Ev.below {T C L R B lbs lbg : Nat} {s : Sc} {una : Int} {la : Option Addr} {lc : Nat} {ls : List Sp} {w W W' : World} (h : Ev T C L R B lbs lbg s una la lc ls w W) (hb : Below W.heap.size W W') : Ev T C L R B lbs lbg s una la lc ls w W' := h.to (Chg.of_below hb) (h.hs.below hb)
theorem Ev.drewN {T C L R B lbs lbg : Nat} {s : Sc} {una : Int} {la : Option Addr} {lc : Nat} {ls : List Sp} {w W : World} (h : Ev T C L R B lbs lbg s una la lc ls w W) (n : Nat) : Ev T C L R B lbs lbg s una la lc ls w (W.drewN n) := h.below ⟨rfl, rfl, rfl, Nat.le_refl _, fun _ _ => rfl⟩
theorem Ev.drew {T C L R B lbs lbg : Nat} {s : Sc} {una : Int} {la : Option Addr} {lc : Nat} {ls : List Sp} {w W : World} (h : Ev T C L R B lbs lbg s una la lc ls w W) : Ev T C L R B lbs lbg s una la lc ls w W.drew := h.below (Below.refl _ _).drew
theorem Ev.start {T C L B lb : Nat} {s : Sc} {una : Int} {la : Option Addr} {lc : Nat} {ls : List Sp} {w : World} (cT : w.cell? ⟨T, 0, none⟩ = some (.int .i64 una)) (cC : w.cell? ⟨C, 0, none⟩ = some (.pointer (some ⟨B, 0, none⟩))) (cL : w.cell? ⟨L, 0, none⟩ = some (.slice la ls.length lc))
    (ne : T ≠ B ∧ C ≠ B ∧ L ≠ B) (hs : ScAt B lb s w) (hl : InL B la ls w) : Ev T C L w.heap.size B lb lb s una la lc ls w (w.alloc (.cells #[.int .i64 0, .int .i64 0] 111)) := by
  have hb := sgBel w (.cells #[.int .i64 0, .int .i64 0] 111)
  have hc : Chg B w (w.alloc (.cells #[.int .i64 0, .int .i64 0] 111)) := Chg.of_below hb
  exact ⟨cell_chg cT hc ne.1, cell_chg cC hc ne.2.1, cell_chg cL hc ne.2.2, ⟨_, At.new _ rfl rfl⟩, ⟨_, At.new _ rfl rfl⟩, hs.below hb, hl.chg hc, hc, ⟨ne.1, ne.2.1, ne.2.2, by have := hs.lt; omega⟩, Nat.le_refl _⟩
theorem nqBel (W : World) (n : Nat) : Below W.heap.size W (W.drewN n) := ⟨rfl, rfl, rfl, Nat.le_refl _, fun _ _ => rfl⟩
set_option maxRecDepth 100000 in
set_option maxHeartbeats 4000000 in
theorem acked1_any (T C L B lb : Nat) (s : Sc) (una : Int) (la : Option Addr) (lc : Nat) (ls : List Sp) (w : World) (ok : s.Ok) (cT : w.cell? ⟨T, 0, none⟩ = some (.int .i64 una)) (cC : w.cell? ⟨C, 0, none⟩ = some (.pointer (some ⟨B, 0, none⟩))) (cL : w.cell? ⟨L, 0, none⟩ = some (.slice la ls.length lc))
    (ne : T ≠ B ∧ C ≠ B ∧ L ≠ B) (hs : ScAt B lb s w) (hl : InL B la ls w) (hlen : (s.sk ++ ls).length ≤ 1099511627776) :
    Calls Try.prog 75 #[.pointer (some ⟨T, 0, none⟩), .pointer (some ⟨C, 0, none⟩), .pointer (some ⟨L, 0, none⟩)] w fun e w' => ∃ v, e = .returned v ∧ v = .agg #[.int .i64 (s.ackN una ls), .int .i64 (s.ackE una ls)] ∧ ((s.acked una ls = s ∧ Below w.heap.size w w') ∨ ScAt B w.heap.size (s.acked una ls) w') ∧ Chg B w w' := by
  have HOK := Lib.hid ok
  have HLN := Lib.hid hlen
  have HE0 := Lib.hid (Ev.start cT cC cL ne hs hl)
  have HS0 := Lib.hid hs
  have HBR := Lib.hid (show B < w.heap.size + 1 by have := hs.lt; omega)
  have HCN := Lib.hid (show countL s.sk = countF s.sk by unfold countL; rw [if_pos ok.csk])
  have HW1 := Lib.hid (show IntKind.i64.wrap (s.una + countF s.sk) = s.una + countF s.sk from IntWalk.i64_in _ (by have h1 := ok.u0; have h2 := ok.un; have h3 := ok.n40; have h4 := countF_nonneg ok.csk; omega))
  have HCR := Lib.hid (show C < w.heap.size from block_lt_of_cell cC)
  clear ok hlen cT cC cL ne hs hl
  go_enter Try.func75, Try.ntmps75
  go_wp2_with fail
  obtain ⟨R, hR⟩ : ∃ R, R = w.heap.size := ⟨_, rfl⟩
  rw [← hR] at HE0 HBR ⊢
  have HBW := Lib.hid (sgBel w (.cells #[.int .i64 0, .int .i64 0] 111))
  generalize w.alloc (.cells #[.int .i64 0, .int .i64 0] 111) = W0 at HE0 HBW ⊢
  clear hR
  have HE := HE0
  clear HE0
  obtain ⟨sa, sc, ga, gc, ⟨c0, f0⟩, ⟨c1, f1⟩, -, -, -, -, -⟩ := HE.out.hs.ats
  have cT := HE.out.cT
  have cC := HE.out.cC
  obtain ⟨v0, r0, q0⟩ := HE.out.r0
  obtain ⟨v1, r1, q1⟩ := HE.out.r1
  rcases Int.lt_or_le una 0 with hu | hu
  · have hd : decide (una < 0) = true := by rw [decide_eq_true_iff]; omega
    have HNO := Lib.hid (show s.ackB una ls = false from by unfold Sc.ackB; rw [show decide (0 ≤ una ∧ una ≤ s.next) = false by rw [decide_eq_false_iff_not]; omega]; rfl)
    go_wp2_with fail
    go_quiet (fail)
    go_wp2_with fail
    have hev := HE.out.drewN nq
    have hbw := HBW.out.trans ((nqBel W0 nq).mono HBW.out.size)
    obtain ⟨x0, hx0⟩ := hev.r0
    obtain ⟨x1, hx1⟩ := hev.r1
    have d0 := ((hx0.set (.int .i64 0)).other ⟨R, 1, none⟩ (.int .i64 140) (by intro e; cases e)).1
    have d1 := ((hx1.other ⟨R, 0, none⟩ (.int .i64 0) (by intro e; cases e)).set (.int .i64 140)).1
    have hbw2 := (hbw.setCell (p := ⟨R, 0, none⟩) hev.rw_ (.int .i64 0)).setCell (p := ⟨R, 1, none⟩) hev.rw_ (.int .i64 140)
    refine bodyPost_ret (v := .agg #[.int .i64 0, .int .i64 140]) (by simp [results, Try.results75, go_sem, d0, d1]) rfl ⟨_, rfl, by unfold Sc.ackN Sc.ackE; rw [HNO.out]; rfl, Or.inl ⟨by simp [Sc.acked, HNO.out], hbw2⟩, Chg.of_below hbw2⟩
  rcases Int.lt_or_le s.next una with hv | hv
  · have HNO := Lib.hid (show s.ackB una ls = false from by unfold Sc.ackB; rw [show decide (0 ≤ una ∧ una ≤ s.next) = false by rw [decide_eq_false_iff_not]; omega]; rfl)
    go_wp2_with fail
    go_quiet (fail)
    go_wp2_with fail
    have hev := HE.out.drewN nq
    have hbw := HBW.out.trans ((nqBel W0 nq).mono HBW.out.size)
    obtain ⟨x0, hx0⟩ := hev.r0
    obtain ⟨x1, hx1⟩ := hev.r1
    have d0 := ((hx0.set (.int .i64 0)).other ⟨R, 1, none⟩ (.int .i64 140) (by intro e; cases e)).1
    have d1 := ((hx1.other ⟨R, 0, none⟩ (.int .i64 0) (by intro e; cases e)).set (.int .i64 140)).1
    have hbw2 := (hbw.setCell (p := ⟨R, 0, none⟩) hev.rw_ (.int .i64 0)).setCell (p := ⟨R, 1, none⟩) hev.rw_ (.int .i64 140)
    refine bodyPost_ret (v := .agg #[.int .i64 0, .int .i64 140]) (by simp [results, Try.results75, go_sem, d0, d1]) rfl ⟨_, rfl, by unfold Sc.ackN Sc.ackE; rw [HNO.out]; rfl, Or.inl ⟨by simp [Sc.acked, HNO.out], hbw2⟩, Chg.of_below hbw2⟩
  go_wp2_with fail
  go_quiet (fail)
  replace HE := Lib.hid (HE.out.drewN nq)
  replace HBW := Lib.hid (HBW.out.trans ((nqBel W0 nq).mono HBW.out.size))
  generalize W0.drewN nq = W1 at HE HBW ⊢
  clear c0 f0 c1 f1 cT cC r0 q0 r1 q1
  have cL := HE.out.cL
  have hlsm := HE.out.hl.1.small
  go_wp2_with fail
  clear cL
  go_loopg [20] ls.length (fun g kv wr => ∃ (k : Nat), kv = .int .i64 (k : Int) ∧ g + k = ls.length ∧ Ev T C L R B lb lb s una la lc ls w wr ∧ Below w.heap.size w wr ∧ ∀ x ∈ ls.take k, s.inB x = true)
  case atStart => exact ⟨0, rfl, rfl, HE.out, HBW.out, fun x hx => by simp at hx⟩
  case round =>
    clear HE HBW
    obtain ⟨k, rfl, hg, hE, hbw, hin⟩ := hrel
    have HE := Lib.hid hE
    have HIN := Lib.hid hin
    have HBW := Lib.hid hbw
    clear hE hin hbw
    by_cases hk : k < ls.length
    · obtain ⟨lb0, lo, rfl, hlb0, hcs⟩ := HE.out.hl.1.cells (by omega)
      obtain ⟨d0, d1⟩ := hcs k hk
      clear hcs
      have HTK := Lib.hid (List.take_succ_eq_append_getElem hk)
      have HMX := Lib.hid (List.getElem_mem hk)
      have hki : (k : Int) < (ls.length : Int) := by omega
      generalize ls[k] = x at d0 d1 HTK HMX
      obtain ⟨x1, x2⟩ := x
      dsimp only at d0 d1
      have cC := (HE.out.below (sgBel wr (.cells #[.int .i64 x1, .int .i64 x2] 51))).cC
      go_wp2_with fail
      clear d0 d1 cC
      replace HE := Lib.hid (HE.out.below (sgBel wr (.cells #[.int .i64 x1, .int .i64 x2] 51)))
      replace HBW := Lib.hid (HBW.out.alloc HBW.out.size (.cells #[.int .i64 x1, .int .i64 x2] 51))
      refine (scwithin_any B lb s (x1, x2) _ HE.out.hs).mono ?_
      rintro e w2 ⟨rfl, hb⟩
      replace HE := Lib.hid (HE.out.below hb)
      replace HBW := Lib.hid (HBW.out.trans (hb.mono HBW.out.size))
      clear hb
      have cC := HE.out.cC
      obtain ⟨v0, r0, q0⟩ := HE.out.r0
      obtain ⟨v1, r1, q1⟩ := HE.out.r1
      cases hib : s.inB (x1, x2) with
      | false =>
        have HNO := Lib.hid (show s.ackB una ls = false by rw [← Bool.not_eq_true, Sc.ackB_iff]; rintro ⟨-, h⟩; have := h _ HMX.out; rw [hib] at this; cases this)
        clear hib
        go_wp2_with fail
        have hev := HE.out
        have hbw := HBW.out
        obtain ⟨x0, hx0⟩ := hev.r0
        obtain ⟨x1, hx1⟩ := hev.r1
        have d0 := ((hx0.set (.int .i64 0)).other ⟨R, 1, none⟩ (.int .i64 140) (by intro e; cases e)).1
        have d1 := ((hx1.other ⟨R, 0, none⟩ (.int .i64 0) (by intro e; cases e)).set (.int .i64 140)).1
        have hbw2 := (hbw.setCell (p := ⟨R, 0, none⟩) hev.rw_ (.int .i64 0)).setCell (p := ⟨R, 1, none⟩) hev.rw_ (.int .i64 140)
        refine bodyPost_ret (v := .agg #[.int .i64 0, .int .i64 140]) (by simp [results, Try.results75, go_sem, d0, d1]) rfl ⟨_, rfl, by unfold Sc.ackN Sc.ackE; rw [HNO.out]; rfl, Or.inl ⟨by simp [Sc.acked, HNO.out], hbw2⟩, Chg.of_below hbw2⟩
      | true =>
        go_wp2_with fail
        go_roundg (gk - 1)
        case measure => omega
        case rel => exact ⟨k + 1, by go_num, by omega, HE.out, HBW.out, fun y hy => by rw [HTK.out] at hy; rcases List.mem_append.1 hy with h | h; exact HIN.out y h; rw [List.mem_singleton.1 h]; exact hib⟩
    · clear HBW
      obtain rfl : k = ls.length := by omega
      have HYES := Lib.hid (show s.ackB una ls = true by rw [Sc.ackB_iff]; refine ⟨⟨hu, hv⟩, ?_⟩; have h := HIN.out; rw [List.take_length] at h; exact h)
      clear HIN
      go_wp2_with fail
      obtain ⟨sa, sc, ga, gc, k0, k1, k2, k3, k4, ls3, ls4⟩ := HE.out.hs.ats
      refine wp_region_held_drew (S := (fun W : World => W.cell? ⟨C, 0, none⟩ = some (.pointer (some ⟨B, 0, none⟩)) ∧ W.cell? ⟨B, 0, none⟩ = some (.int .i64 s.una) ∧ W.cell? ⟨B, 3, none⟩ = some (.slice sa s.sk.length sc))) (by kernel_rfl) (⟨HE.out.cC, k0.1, k3.1⟩) (fun hHeld => ?_)
      clear ls4
      replace HE := Lib.hid HE.out.drew
      obtain ⟨y1, hy1⟩ : ∃ y1, y1 = wr.drew := ⟨_, rfl⟩
      replace ls3 : SpAt y1 y1.heap.size sa s.sk := by rw [hy1]; exact ls3.1.below (Below.refl _ _).drew
      rw [← hy1] at HE hHeld ⊢
      clear hy1 k0 k1 k2 k3 k4
      refine wpAnyH_take (i := 0) (v := ?_) (by simp only [List.getElem?_toArray, List.getElem?_cons_zero]; rfl) (by kernel_rfl) (by kernel_rfl) (by kernel_rfl) (by exact fun _ _ _ h => h) (Or.inl ⟨by rfl, ?_⟩) (by assumption) ?_
      rotate_left 1
      · intro w hSw; (obtain ⟨z0, z1, z2⟩ := hSw); go_simp; (try with_reducible rfl)
      (try simp only [Act.put, List.setIfInBounds_toArray, List.set_cons_zero, List.set_cons_succ])
      refine wpAnyH_take (i := 4) (v := ?_) (by simp only [List.getElem?_toArray, List.getElem?_cons_succ, List.getElem?_cons_zero]; rfl) (by kernel_rfl) (by kernel_rfl) (by kernel_rfl) (by exact fun _ _ _ h => h) (Or.inl ⟨by rfl, ?_⟩) (by assumption) ?_
      rotate_left 1
      · intro w hSw; (obtain ⟨z0, z1, z2⟩ := hSw); go_simp; (try with_reducible rfl)
      (try simp only [Act.put, List.setIfInBounds_toArray, List.set_cons_zero, List.set_cons_succ])
      refine wpAnyH_take (i := 1) (v := ?_) (by simp only [List.getElem?_toArray, List.getElem?_cons_succ, List.getElem?_cons_zero]; rfl) (by kernel_rfl) (by kernel_rfl) (by kernel_rfl) (by exact fun _ _ _ h => h) (Or.inl ⟨by rfl, ?_⟩) (by assumption) ?_
      rotate_left 1
      · intro w hSw; (obtain ⟨z0, z1, z2⟩ := hSw); go_simp; (try with_reducible rfl)
      (try simp only [Act.put, List.setIfInBounds_toArray, List.set_cons_zero, List.set_cons_succ])
      refine wpAnyH_take (i := 5) (v := ?_) (by simp only [List.getElem?_toArray, List.getElem?_cons_succ, List.getElem?_cons_zero]; rfl) (by kernel_rfl) (by kernel_rfl) (by kernel_rfl) (by exact fun _ _ _ h => h) (Or.inl ⟨by rfl, ?_⟩) (by assumption) ?_
      rotate_left 1
      · intro w hSw; (obtain ⟨z0, z1, z2⟩ := hSw); go_simp; (try with_reducible rfl)
      (try simp only [Act.put, List.setIfInBounds_toArray, List.set_cons_zero, List.set_cons_succ])
      refine wpAnyH_take (i := 2) (v := ?_) (by simp only [List.getElem?_toArray, List.getElem?_cons_succ, List.getElem?_cons_zero]; rfl) (by kernel_rfl) (by kernel_rfl) (by kernel_rfl) (by exact fun _ _ _ h => h) (Or.inl ⟨by rfl, ?_⟩) (by assumption) ?_
      rotate_left 1
      · intro w hSw; (obtain ⟨z0, z1, z2⟩ := hSw); go_simp; (try with_reducible rfl)
      (try simp only [Act.put, List.setIfInBounds_toArray, List.set_cons_zero, List.set_cons_succ])
      refine wpAnyH_take (i := 6) (v := ?_) (by simp only [List.getElem?_toArray, List.getElem?_cons_succ, List.getElem?_cons_zero]; rfl) (by kernel_rfl) (by kernel_rfl) (by kernel_rfl) (by exact fun _ _ _ h => h) (Or.inl ⟨by rfl, ?_⟩) (by assumption) ?_
      rotate_left 1
      · intro w hSw; (obtain ⟨z0, z1, z2⟩ := hSw); go_simp; (try with_reducible rfl)
      (try simp only [Act.put, List.setIfInBounds_toArray, List.set_cons_zero, List.set_cons_succ])
      refine wpAnyH_take (i := 3) (v := ?_) (by simp only [List.getElem?_toArray, List.getElem?_cons_succ, List.getElem?_cons_zero]; rfl) (by kernel_rfl) (by kernel_rfl) (by kernel_rfl) (by exact fun _ _ _ h => h) (Or.inl ⟨by rfl, ?_⟩) (by assumption) ?_
      rotate_left 1
      · intro w hSw; (obtain ⟨z0, z1, z2⟩ := hSw); go_simp; (try with_reducible rfl)
      (try simp only [Act.put, List.setIfInBounds_toArray, List.set_cons_zero, List.set_cons_succ])
      refine wpAnyH_take (i := 7) (v := ?_) (by simp only [List.getElem?_toArray, List.getElem?_cons_succ, List.getElem?_cons_zero]; rfl) (by kernel_rfl) (by kernel_rfl) (by kernel_rfl) (by exact fun _ _ _ h => h) (Or.inl ⟨by rfl, ?_⟩) (by assumption) ?_
      rotate_left 1
      · intro w hSw; (obtain ⟨z0, z1, z2⟩ := hSw); go_simp; (try with_reducible rfl)
      (try simp only [Act.put, List.setIfInBounds_toArray, List.set_cons_zero, List.set_cons_succ])
      have hHeld0 := hHeld
      refine wpAnyH_ready (rs := [8]) (by kernel_rfl) (by simp) ?_
      refine AllReadyH.cons (by simp only [List.getElem?_toArray, List.getElem?_cons_succ, List.getElem?_cons_zero]; rfl) (fun Kq hKq => ?_) AllReadyH.nil
      go_simp
      refine (count_any y1 y1.heap.size sa sc s.sk ls3 (Nat.le_refl _)).mono ?_
      rintro e y2 ⟨rfl, hb⟩
      have hk3 : y2.cell? ⟨C, 0, none⟩ = some (.pointer (some ⟨B, 0, none⟩)) ∧ y2.cell? ⟨B, 0, none⟩ = some (.int .i64 s.una) ∧ y2.cell? ⟨B, 3, none⟩ = some (.slice sa s.sk.length sc) := ⟨(hb.cell (p := ⟨C, 0, none⟩) (block_lt_of_cell hHeld0.1)).trans hHeld0.1, (hb.cell (p := ⟨B, 0, none⟩) (block_lt_of_cell hHeld0.2.1)).trans hHeld0.2.1, (hb.cell (p := ⟨B, 3, none⟩) (block_lt_of_cell hHeld0.2.2)).trans hHeld0.2.2⟩
      replace HE := Lib.hid (HE.out.below hb)
      clear hb ls3 hHeld0
      go_simp
      refine hKq.out _ _ (hk3) (fun hHeld2 => ?_)
      clear hKq Kq hHeld
      (try simp only [Act.put, List.setIfInBounds_toArray, List.set_cons_zero, List.set_cons_succ])
      have hHeld := hHeld2
      clear hHeld2
      skip
      refine wpAnyH_take (i := 9) (v := ?_) (by simp only [List.getElem?_toArray, List.getElem?_cons_succ, List.getElem?_cons_zero]; rfl) (by kernel_rfl) (by kernel_rfl) (by kernel_rfl) (by exact fun _ _ _ h => h) (Or.inl ⟨by rfl, ?_⟩) (by assumption) ?_
      rotate_left 1
      · intro w hSw; (try dsimp only at hSw); go_simp; (try with_reducible rfl)
      (try simp only [Act.put, List.setIfInBounds_toArray, List.set_cons_zero, List.set_cons_succ])
      rw [HCN.out, HW1.out]
      refine wpAnyH_take (i := 10) (v := ?_) (by simp only [List.getElem?_toArray, List.getElem?_cons_succ, List.getElem?_cons_zero]; rfl) (by kernel_rfl) (by kernel_rfl) (by kernel_rfl) (by exact fun _ _ _ h => h) (Or.inl ⟨by rfl, ?_⟩) (by assumption) ?_
      rotate_left 1
      · intro w hSw; (try dsimp only at hSw); go_simp; (try with_reducible rfl)
      (try simp only [Act.put, List.setIfInBounds_toArray, List.set_cons_zero, List.set_cons_succ])
      refine wpAnyH_done (by kernel_rfl) ?_ _
      clear hHeld hk3
      obtain ⟨sa, sc, ga, gc, ⟨k0, g0⟩, ⟨k1, -⟩, -, -, -, -, -⟩ := HE.out.hs.ats
      have cC := HE.out.cC
      have cT := HE.out.cT
      go_wp2_with fail
      go_region
      replace HE := Lib.hid (HE.out.to (((Chg.refl B y2).setCell 0 (.int .i64 (max s.una una))).drew) ((HE.out.hs.set (s' := { s with una := max s.una una }) 0 (.int .i64 (max s.una una)) rfl rfl (fun _ _ _ _ => rfl)).below (Below.refl _ _).drew))
      generalize (y2.setCell ⟨B, 0, none⟩ (.int .i64 (max s.una una))).drew = y3 at HE ⊢
      clear k0 g0 k1 cC cT
      obtain ⟨u, hu'⟩ : ∃ u, u = max s.una una := ⟨_, rfl⟩
      rw [← hu'] at HE ⊢
      have HUU := Lib.hid hu'
      have HU0 := Lib.hid (show 0 ≤ u by rw [hu']; omega)
      clear hu'
      go_wp2_with fail
      have hRl : ∃ v, At R 0 v y3 := HE.out.r0
      obtain ⟨vr, hvr⟩ := hRl
      have hRlt := hvr.lt
      clear hvr vr
      have hK : y3.cell? ⟨C, 0, none⟩ = some (.pointer (some ⟨B, 0, none⟩)) ∧ y3.cell? ⟨B, 0, none⟩ = some (.int .i64 u) ∧ y3.cell? ⟨L, 0, none⟩ = some (.slice la ls.length lc) := by obtain ⟨_, _, _, _, ⟨k0, -⟩, -, -, -, -, -, -⟩ := HE.out.hs.ats; exact ⟨HE.out.cC, k0, HE.out.cL⟩
      refine wp_region_held_drew (S := (fun W : World => W.cell? ⟨C, 0, none⟩ = some (.pointer (some ⟨B, 0, none⟩)) ∧ W.cell? ⟨B, 0, none⟩ = some (.int .i64 u) ∧ W.cell? ⟨L, 0, none⟩ = some (.slice la ls.length lc))) (by kernel_rfl) (hK) (fun hHeld => ?_)
      clear hK
      replace HE := Lib.hid HE.out.drew
      replace hRlt : R < y3.drew.heap.size := hRlt
      obtain ⟨y4, hy4⟩ : ∃ y4, y4 = y3.drew := ⟨_, rfl⟩
      rw [← hy4] at HE hHeld hRlt ⊢
      clear hy4
      refine wpAnyH_take (i := 0) (v := ?_) (by simp only [List.getElem?_toArray, List.getElem?_cons_zero]; rfl) (by kernel_rfl) (by kernel_rfl) (by kernel_rfl) (by exact fun _ _ _ h => h) (Or.inl ⟨by rfl, ?_⟩) (by assumption) ?_
      rotate_left 1
      · intro w hSw; (obtain ⟨z0, z1, z2⟩ := hSw); go_simp; (try with_reducible rfl)
      (try simp only [Act.put, List.setIfInBounds_toArray, List.set_cons_zero, List.set_cons_succ])
      refine wpAnyH_take (i := 1) (v := ?_) (by simp only [List.getElem?_toArray, List.getElem?_cons_succ, List.getElem?_cons_zero]; rfl) (by kernel_rfl) (by kernel_rfl) (by kernel_rfl) (by exact fun _ _ _ h => h) (Or.inl ⟨by rfl, ?_⟩) (by assumption) ?_
      rotate_left 1
      · intro w hSw; (obtain ⟨z0, z1, z2⟩ := hSw); go_simp; (try with_reducible rfl)
      (try simp only [Act.put, List.setIfInBounds_toArray, List.set_cons_zero, List.set_cons_succ])
      refine wpAnyH_take (i := 5) (v := ?_) (by simp only [List.getElem?_toArray, List.getElem?_cons_succ, List.getElem?_cons_zero]; rfl) (by kernel_rfl) (by kernel_rfl) (by kernel_rfl) (by exact fun _ _ _ h => h) (Or.inl ⟨by rfl, ?_⟩) (by assumption) ?_
      rotate_left 1
      · intro w hSw; (obtain ⟨z0, z1, z2⟩ := hSw); go_simp; (try with_reducible rfl)
      (try simp only [Act.put, List.setIfInBounds_toArray, List.set_cons_zero, List.set_cons_succ])
      refine wpAnyH_take (i := 9) (v := ?_) (by simp only [List.getElem?_toArray, List.getElem?_cons_succ, List.getElem?_cons_zero]; rfl) (by kernel_rfl) (by kernel_rfl) (by kernel_rfl) (by exact fun _ _ _ h => h) (Or.inl ⟨by rfl, ?_⟩) (by assumption) ?_
      rotate_left 1
      · intro w hSw; (obtain ⟨z0, z1, z2⟩ := hSw); go_simp; (try with_reducible rfl)
      (try simp only [Act.put, List.setIfInBounds_toArray, List.set_cons_zero, List.set_cons_succ])
      refine wpAnyH_take (i := 2) (v := ?_) (by simp only [List.getElem?_toArray, List.getElem?_cons_succ, List.getElem?_cons_zero]; rfl) (by kernel_rfl) (by kernel_rfl) (by kernel_rfl) (by exact fun _ _ _ h => h) (Or.inl ⟨by rfl, ?_⟩) (by assumption) ?_
      rotate_left 1
      · intro w hSw; (obtain ⟨z0, z1, z2⟩ := hSw); go_simp; (try with_reducible rfl)
      (try simp only [Act.put, List.setIfInBounds_toArray, List.set_cons_zero, List.set_cons_succ])
      refine wpAnyH_take (i := 6) (v := ?_) (by simp only [List.getElem?_toArray, List.getElem?_cons_succ, List.getElem?_cons_zero]; rfl) (by kernel_rfl) (by kernel_rfl) (by kernel_rfl) (by exact fun _ _ _ h => h) (Or.inl ⟨by rfl, ?_⟩) (by assumption) ?_
      rotate_left 1
      · intro w hSw; (obtain ⟨z0, z1, z2⟩ := hSw); go_simp; (try with_reducible rfl)
      (try simp only [Act.put, List.setIfInBounds_toArray, List.set_cons_zero, List.set_cons_succ])
      refine wpAnyH_take (i := 3) (v := ?_) (by simp only [List.getElem?_toArray, List.getElem?_cons_succ, List.getElem?_cons_zero]; rfl) (by kernel_rfl) (by kernel_rfl) (by kernel_rfl) (by exact fun _ _ _ h => h) (Or.inl ⟨by rfl, ?_⟩) (by assumption) ?_
      rotate_left 1
      · intro w hSw; (obtain ⟨z0, z1, z2⟩ := hSw); go_simp; (try with_reducible rfl)
      (try simp only [Act.put, List.setIfInBounds_toArray, List.set_cons_zero, List.set_cons_succ])
      refine wpAnyH_take (i := 7) (v := ?_) (by simp only [List.getElem?_toArray, List.getElem?_cons_succ, List.getElem?_cons_zero]; rfl) (by kernel_rfl) (by kernel_rfl) (by kernel_rfl) (by exact fun _ _ _ h => h) (Or.inl ⟨by rfl, ?_⟩) (by assumption) ?_
      rotate_left 1
      · intro w hSw; (obtain ⟨z0, z1, z2⟩ := hSw); go_simp; (try with_reducible rfl)
      (try simp only [Act.put, List.setIfInBounds_toArray, List.set_cons_zero, List.set_cons_succ])
      refine wpAnyH_take (i := 4) (v := ?_) (by simp only [List.getElem?_toArray, List.getElem?_cons_succ, List.getElem?_cons_zero]; rfl) (by kernel_rfl) (by kernel_rfl) (by kernel_rfl) (by exact fun _ _ _ h => h) (Or.inl ⟨by rfl, ?_⟩) (by assumption) ?_
      rotate_left 1
      · intro w hSw; (obtain ⟨z0, z1, z2⟩ := hSw); go_simp; (try with_reducible rfl)
      (try simp only [Act.put, List.setIfInBounds_toArray, List.set_cons_zero, List.set_cons_succ])
      obtain ⟨sa, sc, ga, gc, -, -, -, ⟨k3, g3⟩, -, ls3, -⟩ := HE.out.hs.ats
      dsimp only at k3 ls3
      refine wpAnyH_ready (rs := [8]) (by kernel_rfl) (by simp) ?_
      refine AllReadyH.cons (by simp only [List.getElem?_toArray, List.getElem?_cons_succ, List.getElem?_cons_zero]; rfl) (fun Kq hKq => ?_) AllReadyH.nil
      go_simp
      refine hKq.out _ _ (hHeld) (fun hHeld2 => ?_)
      clear hKq Kq hHeld
      (try simp only [Act.put, List.setIfInBounds_toArray, List.set_cons_zero, List.set_cons_succ])
      have hHeld := hHeld2
      clear hHeld2
      refine wpAnyH_ready (rs := [10]) (by kernel_rfl) (by simp) ?_
      refine AllReadyH.cons (by simp only [List.getElem?_toArray, List.getElem?_cons_succ, List.getElem?_cons_zero]; rfl) (fun Kq hKq => ?_) AllReadyH.nil
      go_simp
      have hb := sgBel y4 (.cells #[.slice sa s.sk.length sc, .slice la ls.length lc] 29)
      have hlat : ListsAt y4.heap.size [(sa, sc, s.sk), (la, lc, ls)] (y4.alloc (.cells #[.slice sa s.sk.length sc, .slice la ls.length lc] 29)) := ⟨by simp, fun i hi => by
        rcases (show i = 0 ∨ i = 1 by simp at hi; omega) with rfl | rfl
        · exact ⟨(At.new (W := y4) (vs := #[.slice sa s.sk.length sc, .slice la ls.length lc]) _ rfl rfl).1, (ls3.1.below hb).mono hb.size⟩
        · exact ⟨(At.new (W := y4) (vs := #[.slice sa s.sk.length sc, .slice la ls.length lc]) _ rfl rfl).1, (HE.out.hl.1.below hb).mono hb.size⟩⟩
      have hK : (y4.alloc (.cells #[.slice sa s.sk.length sc, .slice la ls.length lc] 29)).cell? ⟨C, 0, none⟩ = some (.pointer (some ⟨B, 0, none⟩)) ∧ (y4.alloc (.cells #[.slice sa s.sk.length sc, .slice la ls.length lc] 29)).cell? ⟨B, 0, none⟩ = some (.int .i64 u) ∧ (y4.alloc (.cells #[.slice sa s.sk.length sc, .slice la ls.length lc] 29)).cell? ⟨L, 0, none⟩ = some (.slice la ls.length lc) := by obtain ⟨_, _, _, _, ⟨k0, -⟩, -, -, -, -, -, -⟩ := (HE.out.below hb).hs.ats; exact ⟨(HE.out.below hb).cC, k0, (HE.out.below hb).cL⟩
      replace HE := Lib.hid (HE.out.below hb)
      replace hRlt := Nat.lt_of_lt_of_le hRlt hb.size
      generalize y4.alloc (.cells #[.slice sa s.sk.length sc, .slice la ls.length lc] 29) = y5 at HE hlat hK hRlt ⊢
      have HLT := Lib.hid hlat
      clear hb hlat ls3 k3 g3
      refine hKq.out _ _ (hK) (fun hHeld2 => ?_)
      clear hKq Kq hHeld
      (try simp only [Act.put, List.setIfInBounds_toArray, List.set_cons_zero, List.set_cons_succ])
      have hHeld := hHeld2
      clear hHeld2
      clear hK
      have HAL := Lib.hid (show allL [(sa, sc, s.sk), (la, lc, ls)] = s.sk ++ ls by simp [allL])
      refine wpAnyH_ready (rs := [11]) (by kernel_rfl) (by simp) ?_
      refine AllReadyH.cons (by simp only [List.getElem?_toArray, List.getElem?_cons_succ, List.getElem?_cons_zero]; rfl) (fun Kq hKq => ?_) AllReadyH.nil
      go_simp
      refine (merged_any u _ 2 2 [(sa, sc, s.sk), (la, lc, ls)] y5 rfl HLT.out HU0.out (by rw [HAL.out]; exact HOK.out.okl (Sc.ackB_iff.1 HYES.out).2) (by rw [HAL.out]; exact HLN.out) (by omega)).mono ?_
      rintro e y6 ⟨v, rfl, hO, hb⟩
      rw [HAL.out, HUU.out, show mergedL (max s.una una) (s.sk ++ ls) = (s.ackS una ls).sk from rfl] at hO
      obtain ⟨va, vc, rfl, -⟩ := hO.val
      have hls := (LstAt.own hO (canonF_len (HOK.out.ack_sk HYES.out).1) (show R + 1 ≤ y5.heap.size by omega)).1
      have HLS := Lib.hid hls
      have hK : y6.cell? ⟨C, 0, none⟩ = some (.pointer (some ⟨B, 0, none⟩)) ∧ y6.cell? ⟨B, 0, none⟩ = some (.int .i64 u) ∧ y6.cell? ⟨L, 0, none⟩ = some (.slice la ls.length lc) := by obtain ⟨_, _, _, _, ⟨k0, -⟩, -, -, -, -, -, -⟩ := (HE.out.below hb).hs.ats; exact ⟨(HE.out.below hb).cC, k0, (HE.out.below hb).cL⟩
      replace HE := Lib.hid (HE.out.below hb)
      replace hRlt := Nat.lt_of_lt_of_le hRlt hb.size
      clear hO hb hls HLT HAL
      go_simp
      refine hKq.out _ _ (hK) (fun hHeld2 => ?_)
      clear hKq Kq hHeld
      (try simp only [Act.put, List.setIfInBounds_toArray, List.set_cons_zero, List.set_cons_succ])
      have hHeld := hHeld2
      clear hHeld2
      clear hK
      obtain ⟨sk, hsk⟩ : ∃ sk, sk = (s.ackS una ls).sk := ⟨_, rfl⟩
      rw [← hsk] at HLS ⊢
      have HSK := Lib.hid hsk
      clear hsk
      obtain ⟨sa1, sc1, ga1, gc1, -, -, -, ⟨k3, g3⟩, -, -, -⟩ := HE.out.hs.ats
      refine wpAnyH_take (i := 12) (v := ?_) (by simp only [List.getElem?_toArray, List.getElem?_cons_succ, List.getElem?_cons_zero]; rfl) (by kernel_rfl) (by kernel_rfl) (by kernel_rfl) (by exact fun _ _ _ h => h) (Or.inl ⟨by rfl, ?_⟩) (by assumption) ?_
      rotate_left 1
      · intro w hSw; (obtain ⟨z0, z1, z2⟩ := hSw); go_simp; (try with_reducible rfl)
      (try simp only [Act.put, List.setIfInBounds_toArray, List.set_cons_zero, List.set_cons_succ])
      refine wpAnyH_take (i := 13) (v := ?_) (by simp only [List.getElem?_toArray, List.getElem?_cons_succ, List.getElem?_cons_zero]; rfl) (by kernel_rfl) (by kernel_rfl) (by kernel_rfl) (by exact fun _ _ _ h => h) (Or.inl ⟨by rfl, ?_⟩) (by assumption) ?_
      rotate_left 1
      · intro w hSw; (obtain ⟨z0, z1, z2⟩ := hSw); go_simp; (try with_reducible rfl)
      (try simp only [Act.put, List.setIfInBounds_toArray, List.set_cons_zero, List.set_cons_succ])
      refine wpAnyH_ready (rs := [14]) (by kernel_rfl) (by simp) ?_
      refine AllReadyH.cons (by simp only [List.getElem?_toArray, List.getElem?_cons_succ, List.getElem?_cons_zero]; rfl) (fun Kq hKq => ?_) AllReadyH.nil
      go_simp
      clear k3 g3
      have hch := (Chg.refl B y6).setCell 3 (.slice va sk.length vc)
      have hne := HE.out.ne.2.2.2
      replace HE := Lib.hid (HE.out.to hch (HE.out.hs.setSk (lbs' := R + 1) HBR.out (by omega) HLS.out))
      have hsz7 := hch.size
      generalize y6.setCell ⟨B, 3, none⟩ (.slice va sk.length vc) = y7 at HE hch hsz7 ⊢
      replace hRlt := Nat.lt_of_lt_of_le hRlt hsz7
      have hK : y7.cell? ⟨C, 0, none⟩ = some (.pointer (some ⟨B, 0, none⟩)) ∧ y7.cell? ⟨B, 0, none⟩ = some (.int .i64 u) ∧ y7.cell? ⟨L, 0, none⟩ = some (.slice la ls.length lc) := by obtain ⟨_, _, _, _, ⟨k0, -⟩, -, -, -, -, -, -⟩ := HE.out.hs.ats; exact ⟨HE.out.cC, k0, HE.out.cL⟩
      clear hch hsz7 HLS
      refine hKq.out _ _ (hK) (fun hHeld2 => ?_)
      clear hKq Kq hHeld
      (try simp only [Act.put, List.setIfInBounds_toArray, List.set_cons_zero, List.set_cons_succ])
      have hHeld := hHeld2
      clear hHeld2
      clear hK
      refine wpAnyH_done (by kernel_rfl) ?_ _
      clear hHeld
      go_wp2_with fail
      obtain ⟨sa, sc, ga, gc, ⟨k0, -⟩, -, -, ⟨k3, -⟩, -, -, -⟩ := HE.out.hs.ats
      dsimp only at k0 k3
      refine wp_region_held_drew (S := (fun W : World => W.cell? ⟨C, 0, none⟩ = some (.pointer (some ⟨B, 0, none⟩)) ∧ W.cell? ⟨B, 0, none⟩ = some (.int .i64 u) ∧ W.cell? ⟨B, 3, none⟩ = some (.slice sa sk.length sc))) (by kernel_rfl) (⟨HE.out.cC, k0, k3⟩) (fun hHeld => ?_)
      clear k0 k3
      replace HE := Lib.hid HE.out.drew
      replace hRlt : R < y7.drew.heap.size := hRlt
      obtain ⟨y8, hy8⟩ : ∃ y8, y8 = y7.drew := ⟨_, rfl⟩
      rw [← hy8] at HE hHeld hRlt ⊢
      clear hy8
      refine wpAnyH_take (i := 0) (v := ?_) (by simp only [List.getElem?_toArray, List.getElem?_cons_zero]; rfl) (by kernel_rfl) (by kernel_rfl) (by kernel_rfl) (by exact fun _ _ _ h => h) (Or.inl ⟨by rfl, ?_⟩) (by assumption) ?_
      rotate_left 1
      · intro w hSw; (obtain ⟨z0, z1, z2⟩ := hSw); go_simp; (try with_reducible rfl)
      (try simp only [Act.put, List.setIfInBounds_toArray, List.set_cons_zero, List.set_cons_succ])
      refine wpAnyH_take (i := 1) (v := ?_) (by simp only [List.getElem?_toArray, List.getElem?_cons_succ, List.getElem?_cons_zero]; rfl) (by kernel_rfl) (by kernel_rfl) (by kernel_rfl) (by exact fun _ _ _ h => h) (Or.inl ⟨by rfl, ?_⟩) (by assumption) ?_
      rotate_left 1
      · intro w hSw; (obtain ⟨z0, z1, z2⟩ := hSw); go_simp; (try with_reducible rfl)
      (try simp only [Act.put, List.setIfInBounds_toArray, List.set_cons_zero, List.set_cons_succ])
      refine wpAnyH_take (i := 5) (v := ?_) (by simp only [List.getElem?_toArray, List.getElem?_cons_succ, List.getElem?_cons_zero]; rfl) (by kernel_rfl) (by kernel_rfl) (by kernel_rfl) (by exact fun _ _ _ h => h) (Or.inl ⟨by rfl, ?_⟩) (by assumption) ?_
      rotate_left 1
      · intro w hSw; (obtain ⟨z0, z1, z2⟩ := hSw); go_simp; (try with_reducible rfl)
      (try simp only [Act.put, List.setIfInBounds_toArray, List.set_cons_zero, List.set_cons_succ])
      refine wpAnyH_take (i := 11) (v := ?_) (by simp only [List.getElem?_toArray, List.getElem?_cons_succ, List.getElem?_cons_zero]; rfl) (by kernel_rfl) (by kernel_rfl) (by kernel_rfl) (by exact fun _ _ _ h => h) (Or.inl ⟨by rfl, ?_⟩) (by assumption) ?_
      rotate_left 1
      · intro w hSw; (obtain ⟨z0, z1, z2⟩ := hSw); go_simp; (try with_reducible rfl)
      (try simp only [Act.put, List.setIfInBounds_toArray, List.set_cons_zero, List.set_cons_succ])
      refine wpAnyH_take (i := 2) (v := ?_) (by simp only [List.getElem?_toArray, List.getElem?_cons_succ, List.getElem?_cons_zero]; rfl) (by kernel_rfl) (by kernel_rfl) (by kernel_rfl) (by exact fun _ _ _ h => h) (Or.inl ⟨by rfl, ?_⟩) (by assumption) ?_
      rotate_left 1
      · intro w hSw; (obtain ⟨z0, z1, z2⟩ := hSw); go_simp; (try with_reducible rfl)
      (try simp only [Act.put, List.setIfInBounds_toArray, List.set_cons_zero, List.set_cons_succ])
      refine wpAnyH_take (i := 6) (v := ?_) (by simp only [List.getElem?_toArray, List.getElem?_cons_succ, List.getElem?_cons_zero]; rfl) (by kernel_rfl) (by kernel_rfl) (by kernel_rfl) (by exact fun _ _ _ h => h) (Or.inl ⟨by rfl, ?_⟩) (by assumption) ?_
      rotate_left 1
      · intro w hSw; (obtain ⟨z0, z1, z2⟩ := hSw); go_simp; (try with_reducible rfl)
      (try simp only [Act.put, List.setIfInBounds_toArray, List.set_cons_zero, List.set_cons_succ])
      refine wpAnyH_take (i := 12) (v := ?_) (by simp only [List.getElem?_toArray, List.getElem?_cons_succ, List.getElem?_cons_zero]; rfl) (by kernel_rfl) (by kernel_rfl) (by kernel_rfl) (by exact fun _ _ _ h => h) (Or.inl ⟨by rfl, ?_⟩) (by assumption) ?_
      rotate_left 1
      · intro w hSw; (obtain ⟨z0, z1, z2⟩ := hSw); go_simp; (try with_reducible rfl)
      (try simp only [Act.put, List.setIfInBounds_toArray, List.set_cons_zero, List.set_cons_succ])
      refine wpAnyH_take (i := 3) (v := ?_) (by simp only [List.getElem?_toArray, List.getElem?_cons_succ, List.getElem?_cons_zero]; rfl) (by kernel_rfl) (by kernel_rfl) (by kernel_rfl) (by exact fun _ _ _ h => h) (Or.inl ⟨by rfl, ?_⟩) (by assumption) ?_
      rotate_left 1
      · intro w hSw; (obtain ⟨z0, z1, z2⟩ := hSw); go_simp; (try with_reducible rfl)
      (try simp only [Act.put, List.setIfInBounds_toArray, List.set_cons_zero, List.set_cons_succ])
      refine wpAnyH_take (i := 7) (v := ?_) (by simp only [List.getElem?_toArray, List.getElem?_cons_succ, List.getElem?_cons_zero]; rfl) (by kernel_rfl) (by kernel_rfl) (by kernel_rfl) (by exact fun _ _ _ h => h) (Or.inl ⟨by rfl, ?_⟩) (by assumption) ?_
      rotate_left 1
      · intro w hSw; (obtain ⟨z0, z1, z2⟩ := hSw); go_simp; (try with_reducible rfl)
      (try simp only [Act.put, List.setIfInBounds_toArray, List.set_cons_zero, List.set_cons_succ])
      refine wpAnyH_take (i := 13) (v := ?_) (by simp only [List.getElem?_toArray, List.getElem?_cons_succ, List.getElem?_cons_zero]; rfl) (by kernel_rfl) (by kernel_rfl) (by kernel_rfl) (by exact fun _ _ _ h => h) (Or.inl ⟨by rfl, ?_⟩) (by assumption) ?_
      rotate_left 1
      · intro w hSw; (obtain ⟨z0, z1, z2⟩ := hSw); go_simp; (try with_reducible rfl)
      (try simp only [Act.put, List.setIfInBounds_toArray, List.set_cons_zero, List.set_cons_succ])
      refine wpAnyH_take (i := 4) (v := ?_) (by simp only [List.getElem?_toArray, List.getElem?_cons_succ, List.getElem?_cons_zero]; rfl) (by kernel_rfl) (by kernel_rfl) (by kernel_rfl) (by exact fun _ _ _ h => h) (Or.inl ⟨by rfl, ?_⟩) (by assumption) ?_
      rotate_left 1
      · intro w hSw; (obtain ⟨z0, z1, z2⟩ := hSw); go_simp; (try with_reducible rfl)
      (try simp only [Act.put, List.setIfInBounds_toArray, List.set_cons_zero, List.set_cons_succ])
      refine wpAnyH_take (i := 14) (v := ?_) (by simp only [List.getElem?_toArray, List.getElem?_cons_succ, List.getElem?_cons_zero]; rfl) (by kernel_rfl) (by kernel_rfl) (by kernel_rfl) (by exact fun _ _ _ h => h) (Or.inl ⟨by rfl, ?_⟩) (by assumption) ?_
      rotate_left 1
      · intro w hSw; (obtain ⟨z0, z1, z2⟩ := hSw); go_simp; (try with_reducible rfl)
      (try simp only [Act.put, List.setIfInBounds_toArray, List.set_cons_zero, List.set_cons_succ])
      obtain ⟨sa9, sc9, ga, gc, -, -, -, ⟨k3, -⟩, ⟨k4, g4⟩, ls3, ls4⟩ := HE.out.hs.ats
      dsimp only at k3 k4 ls3 ls4
      obtain ⟨rfl, rfl⟩ : sa = sa9 ∧ sc = sc9 := by have := hHeld.2.2.symm.trans k3; injection this with e; injection e with e1 e2 e3; exact ⟨e1, e3⟩
      clear k3
      refine wpAnyH_ready (rs := [8]) (by kernel_rfl) (by simp) ?_
      refine AllReadyH.cons (by simp only [List.getElem?_toArray, List.getElem?_cons_succ, List.getElem?_cons_zero]; rfl) (fun Kq hKq => ?_) AllReadyH.nil
      go_simp
      refine hKq.out _ _ (hHeld) (fun hHeld2 => ?_)
      clear hKq Kq hHeld
      (try simp only [Act.put, List.setIfInBounds_toArray, List.set_cons_zero, List.set_cons_succ])
      have hHeld := hHeld2
      clear hHeld2
      refine wpAnyH_ready (rs := [9]) (by kernel_rfl) (by simp) ?_
      refine AllReadyH.cons (by simp only [List.getElem?_toArray, List.getElem?_cons_succ, List.getElem?_cons_zero]; rfl) (fun Kq hKq => ?_) AllReadyH.nil
      go_simp
      have hb := sgBel y8 (.cells #[.slice ga s.ag.length gc] 29)
      have hlat : ListsAt y8.heap.size [(ga, gc, s.ag)] (y8.alloc (.cells #[.slice ga s.ag.length gc] 29)) := ⟨by simp, fun i hi => by
        obtain rfl : i = 0 := by simp at hi; omega
        exact ⟨(At.new (W := y8) (vs := #[.slice ga s.ag.length gc]) _ rfl rfl).1, (ls4.1.below hb).mono hb.size⟩⟩
      have hK : (y8.alloc (.cells #[.slice ga s.ag.length gc] 29)).cell? ⟨C, 0, none⟩ = some (.pointer (some ⟨B, 0, none⟩)) ∧ (y8.alloc (.cells #[.slice ga s.ag.length gc] 29)).cell? ⟨B, 0, none⟩ = some (.int .i64 u) ∧ (y8.alloc (.cells #[.slice ga s.ag.length gc] 29)).cell? ⟨B, 3, none⟩ = some (.slice sa sk.length sc) := ⟨(hb.cell (p := ⟨C, 0, none⟩) (block_lt_of_cell hHeld.1)).trans hHeld.1, (hb.cell (p := ⟨B, 0, none⟩) (block_lt_of_cell hHeld.2.1)).trans hHeld.2.1, (hb.cell (p := ⟨B, 3, none⟩) (block_lt_of_cell hHeld.2.2)).trans hHeld.2.2⟩
      replace ls3 := ls3.below hb
      replace HE := Lib.hid (HE.out.below hb)
      replace hRlt := Nat.lt_of_lt_of_le hRlt hb.size
      generalize y8.alloc (.cells #[.slice ga s.ag.length gc] 29) = y9 at HE hlat hK hRlt ls3 ⊢
      have HLT := Lib.hid hlat
      clear hb hlat ls4 k4 g4
      refine hKq.out _ _ (hK) (fun hHeld2 => ?_)
      clear hKq Kq hHeld
      (try simp only [Act.put, List.setIfInBounds_toArray, List.set_cons_zero, List.set_cons_succ])
      have hHeld := hHeld2
      clear hHeld2
      clear hK
      have HAL := Lib.hid (show allL [(ga, gc, s.ag)] = s.ag by simp [allL])
      have HCA := Lib.hid (mergedL_spec (low := u) (L := s.ag) HU0.out (canonF_ok HOK.out.cag)).1
      have HCS := Lib.hid (show canonB sk = true by rw [HSK.out]; exact (HOK.out.ack_sk HYES.out).1)
      refine wpAnyH_ready (rs := [10]) (by kernel_rfl) (by simp) ?_
      refine AllReadyH.cons (by simp only [List.getElem?_toArray, List.getElem?_cons_succ, List.getElem?_cons_zero]; rfl) (fun Kq hKq => ?_) AllReadyH.nil
      go_simp
      refine (merged_any u _ 1 1 [(ga, gc, s.ag)] y9 rfl HLT.out HU0.out (by rw [HAL.out]; exact canonF_ok HOK.out.cag) (by rw [HAL.out]; exact canonF_len HOK.out.cag) (by omega)).mono ?_
      rintro e y10 ⟨v, rfl, hO, hb⟩
      rw [HAL.out] at hO
      obtain ⟨vb, vd, rfl, -⟩ := hO.val
      have hls := (LstAt.own hO (canonF_len HCA.out) (Nat.le_refl _)).1
      have hK : y10.cell? ⟨C, 0, none⟩ = some (.pointer (some ⟨B, 0, none⟩)) ∧ y10.cell? ⟨B, 0, none⟩ = some (.int .i64 u) ∧ y10.cell? ⟨B, 3, none⟩ = some (.slice sa sk.length sc) := ⟨(hb.cell (p := ⟨C, 0, none⟩) (block_lt_of_cell hHeld.1)).trans hHeld.1, (hb.cell (p := ⟨B, 0, none⟩) (block_lt_of_cell hHeld.2.1)).trans hHeld.2.1, (hb.cell (p := ⟨B, 3, none⟩) (block_lt_of_cell hHeld.2.2)).trans hHeld.2.2⟩
      replace ls3 := ls3.below hb
      replace HE := Lib.hid (HE.out.below hb)
      replace hRlt := Nat.lt_of_lt_of_le hRlt hb.size
      clear hO hb HLT HAL
      go_simp
      refine hKq.out _ _ (hK) (fun hHeld2 => ?_)
      clear hKq Kq hHeld
      (try simp only [Act.put, List.setIfInBounds_toArray, List.set_cons_zero, List.set_cons_succ])
      have hHeld := hHeld2
      clear hHeld2
      clear hK
      refine wpAnyH_ready (rs := [15]) (by kernel_rfl) (by simp) ?_
      refine AllReadyH.cons (by simp only [List.getElem?_toArray, List.getElem?_cons_succ, List.getElem?_cons_zero]; rfl) (fun Kq hKq => ?_) AllReadyH.nil
      go_simp
      refine (without_any y10 y10.heap.size vb sa vd sc (mergedL u s.ag) sk _ _ hls.1 ls3.1 ls3.2.1 (Nat.le_refl _) HCA.out HCS.out).mono ?_
      rintro e y11 ⟨v, rfl, hO, hb⟩
      rw [HUU.out, HSK.out, show wthF (mergedL (max s.una una) s.ag) (s.ackS una ls).sk = (s.ackS una ls).ag from rfl] at hO
      obtain ⟨va, vc, rfl, -⟩ := hO.val
      have HLS := Lib.hid (LstAt.own hO (canonF_len (HOK.out.ack_ag HYES.out).1) (show R + 1 ≤ y10.heap.size by omega)).1
      have hK : y11.cell? ⟨C, 0, none⟩ = some (.pointer (some ⟨B, 0, none⟩)) ∧ y11.cell? ⟨B, 0, none⟩ = some (.int .i64 u) ∧ y11.cell? ⟨B, 3, none⟩ = some (.slice sa sk.length sc) := ⟨(hb.cell (p := ⟨C, 0, none⟩) (block_lt_of_cell hHeld.1)).trans hHeld.1, (hb.cell (p := ⟨B, 0, none⟩) (block_lt_of_cell hHeld.2.1)).trans hHeld.2.1, (hb.cell (p := ⟨B, 3, none⟩) (block_lt_of_cell hHeld.2.2)).trans hHeld.2.2⟩
      replace HE := Lib.hid (HE.out.below hb)
      replace hRlt := Nat.lt_of_lt_of_le hRlt hb.size
      clear hO hb hls ls3 HCA
      go_simp
      refine hKq.out _ _ (hK) (fun hHeld2 => ?_)
      clear hKq Kq hHeld
      (try simp only [Act.put, List.setIfInBounds_toArray, List.set_cons_zero, List.set_cons_succ])
      have hHeld := hHeld2
      clear hHeld2
      clear hK
      refine wpAnyH_take (i := 16) (v := ?_) (by simp only [List.getElem?_toArray, List.getElem?_cons_succ, List.getElem?_cons_zero]; rfl) (by kernel_rfl) (by kernel_rfl) (by kernel_rfl) (by exact fun _ _ _ h => h) (Or.inl ⟨by rfl, ?_⟩) (by assumption) ?_
      rotate_left 1
      · intro w hSw; (obtain ⟨z0, z1, z2⟩ := hSw); go_simp; (try with_reducible rfl)
      (try simp only [Act.put, List.setIfInBounds_toArray, List.set_cons_zero, List.set_cons_succ])
      refine wpAnyH_take (i := 17) (v := ?_) (by simp only [List.getElem?_toArray, List.getElem?_cons_succ, List.getElem?_cons_zero]; rfl) (by kernel_rfl) (by kernel_rfl) (by kernel_rfl) (by exact fun _ _ _ h => h) (Or.inl ⟨by rfl, ?_⟩) (by assumption) ?_
      rotate_left 1
      · intro w hSw; (obtain ⟨z0, z1, z2⟩ := hSw); go_simp; (try with_reducible rfl)
      (try simp only [Act.put, List.setIfInBounds_toArray, List.set_cons_zero, List.set_cons_succ])
      obtain ⟨ag, hag⟩ : ∃ ag, ag = (s.ackS una ls).ag := ⟨_, rfl⟩
      rw [← hag] at HLS ⊢
      have HAG := Lib.hid hag
      clear hag
      obtain ⟨sa1, sc1, ga1, gc1, -, -, -, -, ⟨k4, g4⟩, -, -⟩ := HE.out.hs.ats
      refine wpAnyH_ready (rs := [18]) (by kernel_rfl) (by simp) ?_
      refine AllReadyH.cons (by simp only [List.getElem?_toArray, List.getElem?_cons_succ, List.getElem?_cons_zero]; rfl) (fun Kq hKq => ?_) AllReadyH.nil
      go_simp
      clear k4 g4
      have hch := (Chg.refl B y11).setCell 4 (.slice va ag.length vc)
      have hK : (y11.setCell ⟨B, 4, none⟩ (.slice va ag.length vc)).cell? ⟨C, 0, none⟩ = some (.pointer (some ⟨B, 0, none⟩)) ∧ (y11.setCell ⟨B, 4, none⟩ (.slice va ag.length vc)).cell? ⟨B, 0, none⟩ = some (.int .i64 u) ∧ (y11.setCell ⟨B, 4, none⟩ (.slice va ag.length vc)).cell? ⟨B, 3, none⟩ = some (.slice sa sk.length sc) := ⟨cell_chg hHeld.1 hch HE.out.ne.2.1, (World.cell?_setCell_other _ _ _ _ (by intro e; cases e)).trans hHeld.2.1, (World.cell?_setCell_other _ _ _ _ (by intro e; cases e)).trans hHeld.2.2⟩
      replace HE := Lib.hid (HE.out.to hch (HE.out.hs.setAg (lbg' := R + 1) HBR.out (by omega) HLS.out))
      have hsz7 := hch.size
      generalize y11.setCell ⟨B, 4, none⟩ (.slice va ag.length vc) = y12 at HE hch hsz7 hK ⊢
      replace hRlt := Nat.lt_of_lt_of_le hRlt hsz7
      clear hch hsz7 HLS
      refine hKq.out _ _ (hK) (fun hHeld2 => ?_)
      clear hKq Kq hHeld
      (try simp only [Act.put, List.setIfInBounds_toArray, List.set_cons_zero, List.set_cons_succ])
      have hHeld := hHeld2
      clear hHeld2
      clear hK
      refine wpAnyH_done (by kernel_rfl) ?_ _
      clear hHeld
      go_wp2_with fail
      obtain ⟨sa, sc, ga, gc, ⟨k0, -⟩, -, -, ⟨k3, -⟩, -, -, -⟩ := HE.out.hs.ats
      dsimp only at k0 k3
      refine wp_region_held_drew (S := (fun W : World => W.cell? ⟨C, 0, none⟩ = some (.pointer (some ⟨B, 0, none⟩)) ∧ W.cell? ⟨B, 0, none⟩ = some (.int .i64 u) ∧ W.cell? ⟨B, 3, none⟩ = some (.slice sa sk.length sc))) (by kernel_rfl) (⟨HE.out.cC, k0, k3⟩) (fun hHeld => ?_)
      clear k0 k3
      replace HE := Lib.hid HE.out.drew
      replace hRlt : R < y12.drew.heap.size := hRlt
      obtain ⟨y13, hy13⟩ : ∃ y13, y13 = y12.drew := ⟨_, rfl⟩
      rw [← hy13] at HE hHeld hRlt ⊢
      clear hy13
      refine wpAnyH_take (i := 0) (v := ?_) (by simp only [List.getElem?_toArray, List.getElem?_cons_zero]; rfl) (by kernel_rfl) (by kernel_rfl) (by kernel_rfl) (by exact fun _ _ _ h => h) (Or.inl ⟨by rfl, ?_⟩) (by assumption) ?_
      rotate_left 1
      · intro w hSw; (obtain ⟨z0, z1, z2⟩ := hSw); go_simp; (try with_reducible rfl)
      (try simp only [Act.put, List.setIfInBounds_toArray, List.set_cons_zero, List.set_cons_succ])
      refine wpAnyH_take (i := 4) (v := ?_) (by simp only [List.getElem?_toArray, List.getElem?_cons_succ, List.getElem?_cons_zero]; rfl) (by kernel_rfl) (by kernel_rfl) (by kernel_rfl) (by exact fun _ _ _ h => h) (Or.inl ⟨by rfl, ?_⟩) (by assumption) ?_
      rotate_left 1
      · intro w hSw; (obtain ⟨z0, z1, z2⟩ := hSw); go_simp; (try with_reducible rfl)
      (try simp only [Act.put, List.setIfInBounds_toArray, List.set_cons_zero, List.set_cons_succ])
      refine wpAnyH_take (i := 10) (v := ?_) (by simp only [List.getElem?_toArray, List.getElem?_cons_succ, List.getElem?_cons_zero]; rfl) (by kernel_rfl) (by kernel_rfl) (by kernel_rfl) (by exact fun _ _ _ h => h) (Or.inl ⟨by rfl, ?_⟩) (by assumption) ?_
      rotate_left 1
      · intro w hSw; (obtain ⟨z0, z1, z2⟩ := hSw); go_simp; (try with_reducible rfl)
      (try simp only [Act.put, List.setIfInBounds_toArray, List.set_cons_zero, List.set_cons_succ])
      refine wpAnyH_take (i := 1) (v := ?_) (by simp only [List.getElem?_toArray, List.getElem?_cons_succ, List.getElem?_cons_zero]; rfl) (by kernel_rfl) (by kernel_rfl) (by kernel_rfl) (by exact fun _ _ _ h => h) (Or.inl ⟨by rfl, ?_⟩) (by assumption) ?_
      rotate_left 1
      · intro w hSw; (obtain ⟨z0, z1, z2⟩ := hSw); go_simp; (try with_reducible rfl)
      (try simp only [Act.put, List.setIfInBounds_toArray, List.set_cons_zero, List.set_cons_succ])
      refine wpAnyH_take (i := 5) (v := ?_) (by simp only [List.getElem?_toArray, List.getElem?_cons_succ, List.getElem?_cons_zero]; rfl) (by kernel_rfl) (by kernel_rfl) (by kernel_rfl) (by exact fun _ _ _ h => h) (Or.inl ⟨by rfl, ?_⟩) (by assumption) ?_
      rotate_left 1
      · intro w hSw; (obtain ⟨z0, z1, z2⟩ := hSw); go_simp; (try with_reducible rfl)
      (try simp only [Act.put, List.setIfInBounds_toArray, List.set_cons_zero, List.set_cons_succ])
      refine wpAnyH_take (i := 2) (v := ?_) (by simp only [List.getElem?_toArray, List.getElem?_cons_succ, List.getElem?_cons_zero]; rfl) (by kernel_rfl) (by kernel_rfl) (by kernel_rfl) (by exact fun _ _ _ h => h) (Or.inl ⟨by rfl, ?_⟩) (by assumption) ?_
      rotate_left 1
      · intro w hSw; (obtain ⟨z0, z1, z2⟩ := hSw); go_simp; (try with_reducible rfl)
      (try simp only [Act.put, List.setIfInBounds_toArray, List.set_cons_zero, List.set_cons_succ])
      refine wpAnyH_take (i := 6) (v := ?_) (by simp only [List.getElem?_toArray, List.getElem?_cons_succ, List.getElem?_cons_zero]; rfl) (by kernel_rfl) (by kernel_rfl) (by kernel_rfl) (by exact fun _ _ _ h => h) (Or.inl ⟨by rfl, ?_⟩) (by assumption) ?_
      rotate_left 1
      · intro w hSw; (obtain ⟨z0, z1, z2⟩ := hSw); go_simp; (try with_reducible rfl)
      (try simp only [Act.put, List.setIfInBounds_toArray, List.set_cons_zero, List.set_cons_succ])
      refine wpAnyH_take (i := 3) (v := ?_) (by simp only [List.getElem?_toArray, List.getElem?_cons_succ, List.getElem?_cons_zero]; rfl) (by kernel_rfl) (by kernel_rfl) (by kernel_rfl) (by exact fun _ _ _ h => h) (Or.inl ⟨by rfl, ?_⟩) (by assumption) ?_
      rotate_left 1
      · intro w hSw; (obtain ⟨z0, z1, z2⟩ := hSw); go_simp; (try with_reducible rfl)
      (try simp only [Act.put, List.setIfInBounds_toArray, List.set_cons_zero, List.set_cons_succ])
      refine wpAnyH_take (i := 7) (v := ?_) (by simp only [List.getElem?_toArray, List.getElem?_cons_succ, List.getElem?_cons_zero]; rfl) (by kernel_rfl) (by kernel_rfl) (by kernel_rfl) (by exact fun _ _ _ h => h) (Or.inl ⟨by rfl, ?_⟩) (by assumption) ?_
      rotate_left 1
      · intro w hSw; (obtain ⟨z0, z1, z2⟩ := hSw); go_simp; (try with_reducible rfl)
      (try simp only [Act.put, List.setIfInBounds_toArray, List.set_cons_zero, List.set_cons_succ])
      obtain ⟨sa9, sc9, ga, gc, -, -, -, ⟨k3, -⟩, -, ls3, -⟩ := HE.out.hs.ats
      dsimp only at k3 ls3
      obtain ⟨rfl, rfl⟩ : sa = sa9 ∧ sc = sc9 := by have := hHeld.2.2.symm.trans k3; injection this with e; injection e with e1 e2 e3; exact ⟨e1, e3⟩
      clear k3
      have HB2 := Lib.hid (show IntKind.i64.wrap (u + countF sk) = u + countF sk ∧ IntKind.i64.wrap (u + countF sk - (s.una + countF s.sk)) = u + countF sk - (s.una + countF s.sk) ∧ countL sk = countF sk from ⟨IntWalk.i64_in _ (by have h1 := HOK.out.u0; have h2 := HOK.out.un; have h3 := HOK.out.n40; have h4 := countF_nonneg HCS.out; have h5 := HUU.out; omega), IntWalk.i64_in _ (by have h1 := HOK.out.u0; have h2 := HOK.out.un; have h3 := HOK.out.n40; have h4 := countF_nonneg HCS.out; have h5 := HUU.out; have h6 := countF_nonneg HOK.out.csk; omega), by unfold countL; rw [if_pos HCS.out]⟩)
      refine wpAnyH_ready (rs := [8]) (by kernel_rfl) (by simp) ?_
      refine AllReadyH.cons (by simp only [List.getElem?_toArray, List.getElem?_cons_succ, List.getElem?_cons_zero]; rfl) (fun Kq hKq => ?_) AllReadyH.nil
      go_simp
      refine (count_any y13 y13.heap.size sa sc sk ls3.1 (Nat.le_refl _)).mono ?_
      rintro e y14 ⟨rfl, hb⟩
      have hK : y14.cell? ⟨C, 0, none⟩ = some (.pointer (some ⟨B, 0, none⟩)) ∧ y14.cell? ⟨B, 0, none⟩ = some (.int .i64 u) ∧ y14.cell? ⟨B, 3, none⟩ = some (.slice sa sk.length sc) := ⟨(hb.cell (p := ⟨C, 0, none⟩) (block_lt_of_cell hHeld.1)).trans hHeld.1, (hb.cell (p := ⟨B, 0, none⟩) (block_lt_of_cell hHeld.2.1)).trans hHeld.2.1, (hb.cell (p := ⟨B, 3, none⟩) (block_lt_of_cell hHeld.2.2)).trans hHeld.2.2⟩
      replace HE := Lib.hid (HE.out.below hb)
      replace hRlt := Nat.lt_of_lt_of_le hRlt hb.size
      clear hb ls3
      go_simp
      refine hKq.out _ _ (hK) (fun hHeld2 => ?_)
      clear hKq Kq hHeld
      (try simp only [Act.put, List.setIfInBounds_toArray, List.set_cons_zero, List.set_cons_succ])
      have hHeld := hHeld2
      clear hHeld2
      clear hK
      refine wpAnyH_take (i := 9) (v := ?_) (by simp only [List.getElem?_toArray, List.getElem?_cons_succ, List.getElem?_cons_zero]; rfl) (by kernel_rfl) (by kernel_rfl) (by kernel_rfl) (by exact fun _ _ _ h => h) (Or.inl ⟨by rfl, ?_⟩) (by assumption) ?_
      rotate_left 1
      · intro w hSw; (try dsimp only at hSw); go_simp; (try with_reducible rfl)
      (try simp only [Act.put, List.setIfInBounds_toArray, List.set_cons_zero, List.set_cons_succ])
      rw [HB2.out.2.2, HB2.out.1]
      refine wpAnyH_take (i := 11) (v := ?_) (by simp only [List.getElem?_toArray, List.getElem?_cons_succ, List.getElem?_cons_zero]; rfl) (by kernel_rfl) (by kernel_rfl) (by kernel_rfl) (by exact fun _ _ _ h => h) (Or.inl ⟨by rfl, ?_⟩) (by assumption) ?_
      rotate_left 1
      · intro w hSw; (try dsimp only at hSw); go_simp; (try with_reducible rfl)
      (try simp only [Act.put, List.setIfInBounds_toArray, List.set_cons_zero, List.set_cons_succ])
      rw [HB2.out.2.1]
      refine wpAnyH_take (i := 12) (v := ?_) (by simp only [List.getElem?_toArray, List.getElem?_cons_succ, List.getElem?_cons_zero]; rfl) (by kernel_rfl) (by kernel_rfl) (by kernel_rfl) (by exact fun _ _ _ h => h) (Or.inl ⟨by rfl, ?_⟩) (by assumption) ?_
      rotate_left 1
      · intro w hSw; (try dsimp only at hSw); go_simp; (try with_reducible rfl)
      (try simp only [Act.put, List.setIfInBounds_toArray, List.set_cons_zero, List.set_cons_succ])
      obtain ⟨x0, p0, q0⟩ := HE.out.r0
      obtain ⟨x1, p1, q1⟩ := HE.out.r1
      obtain ⟨n, hn⟩ : ∃ n, n = u + countF sk - (s.una + countF s.sk) := ⟨_, rfl⟩
      rw [← hn]
      have HN := Lib.hid hn
      clear hn
      refine wpAnyH_ready (rs := [13]) (by kernel_rfl) (by simp) ?_
      refine AllReadyH.cons (by simp only [List.getElem?_toArray, List.getElem?_cons_succ, List.getElem?_cons_zero]; rfl) (fun Kq hKq => ?_) AllReadyH.nil
      go_simp
      have hRB : R ≠ B := HE.out.ne.2.2.2
      have e0 : At R 0 x0 y14 := ⟨p0, q0⟩
      have e1 : At R 1 x1 y14 := ⟨p1, q1⟩
      have d0 := ((e0.set (.int .i64 n)).other ⟨R, 1, none⟩ (.int .i64 0) (by intro e; cases e)).1
      have d1 := ((e1.other ⟨R, 0, none⟩ (.int .i64 n) (by intro e; cases e)).set (.int .i64 0)).1
      clear p0 q0 p1 q1 e0 e1
      have hch : Chg R y14 ((y14.setCell ⟨R, 0, none⟩ (.int .i64 n)).setCell ⟨R, 1, none⟩ (.int .i64 0)) := ((Chg.refl R y14).setCell 0 (.int .i64 n)).setCell 1 (.int .i64 0)
      have hs9 := HE.out.hs.other hch (by omega) (by omega) (by omega)
      have hcb : Chg B w ((y14.setCell ⟨R, 0, none⟩ (.int .i64 n)).setCell ⟨R, 1, none⟩ (.int .i64 0)) := (HE.out.chg.setNew ⟨R, 0, none⟩ HE.out.rw_ (.int .i64 n)).setNew ⟨R, 1, none⟩ HE.out.rw_ (.int .i64 0)
      have hse : ({ s with una := u, sk := sk, ag := ag } : Sc) = s.acked una ls := by
        unfold Sc.acked
        rw [if_pos HYES.out, HUU.out, HSK.out, HAG.out] <;> rfl
      have HZ := Lib.hid (show ScAt B w.heap.size (s.acked una ls) ((y14.setCell ⟨R, 0, none⟩ (.int .i64 n)).setCell ⟨R, 1, none⟩ (.int .i64 0)) by rw [← hse]; exact hs9.mono (by have := HE.out.rw_; omega) (by have := HE.out.rw_; omega) HS0.out.lt HS0.out.lt)
      have HCH := Lib.hid hcb
      have hK : ((y14.setCell ⟨R, 0, none⟩ (.int .i64 n)).setCell ⟨R, 1, none⟩ (.int .i64 0)).cell? ⟨C, 0, none⟩ = some (.pointer (some ⟨B, 0, none⟩)) ∧ ((y14.setCell ⟨R, 0, none⟩ (.int .i64 n)).setCell ⟨R, 1, none⟩ (.int .i64 0)).cell? ⟨B, 0, none⟩ = some (.int .i64 u) ∧ ((y14.setCell ⟨R, 0, none⟩ (.int .i64 n)).setCell ⟨R, 1, none⟩ (.int .i64 0)).cell? ⟨B, 3, none⟩ = some (.slice sa sk.length sc) := ⟨cell_chg hHeld.1 hch (by have := HCR.out; have := HE.out.rw_; omega), cell_chg hHeld.2.1 hch (Ne.symm hRB), cell_chg hHeld.2.2 hch (Ne.symm hRB)⟩
      clear hse hs9 hch hcb
      generalize ((y14.setCell ⟨R, 0, none⟩ (.int .i64 n)).setCell ⟨R, 1, none⟩ (.int .i64 0)) = y15 at d0 d1 HZ HCH hK ⊢
      refine hKq.out _ _ (hK) (fun hHeld2 => ?_)
      clear hKq Kq hHeld
      (try simp only [Act.put, List.setIfInBounds_toArray, List.set_cons_zero, List.set_cons_succ])
      have hHeld := hHeld2
      clear hHeld2
      clear hK
      refine wpAnyH_done (by kernel_rfl) ?_ _
      clear hHeld
      go_wp2_with fail
      refine bodyPost_ret (v := .agg #[.int .i64 n, .int .i64 0]) (by simp [results, Try.results75, go_sem, d0, d1]) rfl ⟨_, rfl, by unfold Sc.ackN Sc.ackE; rw [if_pos HYES.out, if_pos HYES.out, ← HSK.out, ← HUU.out, ← HN.out], Or.inr HZ.out, HCH.out⟩
end Go.Proofs.Ytncjeleabpodaaa
namespace Go.Proofs.Ytncjeleabpodaaa
open Go.RowKit Go.Shelf
set_option maxHeartbeats 1000000 in
theorem unless_acked (T C L B lb : Nat) (s : Sc) (una : Int) (la : Option Addr) (lc : Nat) (ls : List Sp) (w : World) (ok : s.Ok) (cT : w.cell? ⟨T, 0, none⟩ = some (.int .i64 una)) (cC : w.cell? ⟨C, 0, none⟩ = some (.pointer (some ⟨B, 0, none⟩))) (cL : w.cell? ⟨L, 0, none⟩ = some (.slice la ls.length lc))
    (ne : T ≠ B ∧ C ≠ B ∧ L ≠ B) (hs : ScAt B lb s w) (hl : InL B la ls w) (hlen : (s.sk ++ ls).length ≤ 1099511627776) :
    Calls Try.prog 74 #[.pointer (some ⟨B, 0, none⟩), .agg #[.int .i64 0, .int .i64 1], .func (.func 75) #[] #[.pointer (some ⟨T, 0, none⟩), .pointer (some ⟨C, 0, none⟩), .pointer (some ⟨L, 0, none⟩)]] w fun e w' => e = .returned (.agg #[.int .i64 (s.ackN una ls), .int .i64 (s.ackE una ls)]) ∧ ScAt B lb (s.acked una ls) w' ∧ Chg B w w' := by
  have hb := ((Below.refl w.heap.size w).alloc (Nat.le_refl _) (.cells #[.int .i64 0, .int .i64 1] 111)).alloc (by simp) (.cells #[.int .i64 0, .int .i64 0] 111)
  have hc := Chg.of_below (B := B) hb
  have hlt := hs.lt
  have a0 : At (w.heap.size + 1) 0 (.int .i64 0) ((w.alloc (.cells #[.int .i64 0, .int .i64 1] 111)).alloc (.cells #[.int .i64 0, .int .i64 0] 111)) := At.new (W := w.alloc (.cells #[.int .i64 0, .int .i64 1] 111)) (vs := #[.int .i64 0, .int .i64 0]) _ (by simp) rfl
  have a1 : At (w.heap.size + 1) 1 (.int .i64 0) ((w.alloc (.cells #[.int .i64 0, .int .i64 1] 111)).alloc (.cells #[.int .i64 0, .int .i64 0] 111)) := At.new (W := w.alloc (.cells #[.int .i64 0, .int .i64 1] 111)) (vs := #[.int .i64 0, .int .i64 0]) _ (by simp) rfl
  have HU := Lib.hid (acked1_any T C L B lb s una la lc ls ((w.alloc (.cells #[.int .i64 0, .int .i64 1] 111)).alloc (.cells #[.int .i64 0, .int .i64 0] 111)) ok (cell_chg cT hc ne.1) (cell_chg cC hc ne.2.1) (cell_chg cL hc ne.2.2) ne (hs.below hb) (hl.chg hc) hlen)
  have HC := Lib.hid hc
  have HA := Lib.hid (show At (w.heap.size + 1) 0 (.int .i64 0) _ ∧ At (w.heap.size + 1) 1 (.int .i64 0) _ from ⟨a0, a1⟩)
  have HS0 := Lib.hid hs
  have HB := Lib.hid hb
  have hsz : ((w.alloc (.cells #[.int .i64 0, .int .i64 1] 111)).alloc (.cells #[.int .i64 0, .int .i64 0] 111)).heap.size = w.heap.size + 2 := by simp
  have hlb := hs.2.1.1
  clear ok cT cC cL ne hs hl hlen hb hc a0 a1
  go_enter Try.func74, Try.ntmps74
  go_wp2_with fail
  generalize (w.alloc (.cells #[.int .i64 0, .int .i64 1] 111)).alloc (.cells #[.int .i64 0, .int .i64 0] 111) = w1 at HU HC HA HB hsz ⊢
  refine (HU.out).mono ?_
  rintro e w2 ⟨v, rfl, rfl, hS, hch⟩
  have hne : w.heap.size + 1 ≠ B := by omega
  obtain ⟨c0, f0⟩ := at_chg HA.out.1 hch hne
  obtain ⟨c1, f1⟩ := at_chg HA.out.2 hch hne
  have e0 : At (w.heap.size + 1) 0 (.int .i64 0) w2 := ⟨c0, f0⟩
  have e1 : At (w.heap.size + 1) 1 (.int .i64 0) w2 := ⟨c1, f1⟩
  have hR : Chg (w.heap.size + 1) w2 ((w2.setCell ⟨w.heap.size + 1, 0, none⟩ (.int .i64 (s.ackN una ls))).setCell ⟨w.heap.size + 1, 1, none⟩ (.int .i64 (s.ackE una ls))) := ((Chg.refl _ w2).setCell 0 _).setCell 1 _
  have HS := Lib.hid (show ScAt B lb (s.acked una ls) ((w2.setCell ⟨w.heap.size + 1, 0, none⟩ (.int .i64 (s.ackN una ls))).setCell ⟨w.heap.size + 1, 1, none⟩ (.int .i64 (s.ackE una ls))) by
    rcases hS with ⟨e, hbw⟩ | hS
    · rw [e]
      exact HS0.out.below (((HB.out.trans (hbw.mono HB.out.size)).setCell (p := ⟨w.heap.size + 1, 0, none⟩) (by simp) _).setCell (p := ⟨w.heap.size + 1, 1, none⟩) (by simp) _)
    · exact (hS.other hR (Ne.symm hne) (by omega)).mono (by omega) (by omega) HS0.out.1.1 HS0.out.1.1)
  have HCC := Lib.hid (((HC.out.trans hch).setNew ⟨w.heap.size + 1, 0, none⟩ (by simp) (.int .i64 (s.ackN una ls))).setNew ⟨w.heap.size + 1, 1, none⟩ (by simp) (.int .i64 (s.ackE una ls)))
  have d0 := ((e0.set (.int .i64 (s.ackN una ls))).other ⟨w.heap.size + 1, 1, none⟩ (.int .i64 (s.ackE una ls)) (by intro e; cases e)).1
  have d1 := ((e1.other ⟨w.heap.size + 1, 0, none⟩ (.int .i64 (s.ackN una ls)) (by intro e; cases e)).set (.int .i64 (s.ackE una ls))).1
  clear hS hR hch e0 e1 HU HC HA HB HS0
  go_wp2_with fail
  clear c0 f0 c1 f1
  exact bodyPost_ret (v := .agg #[.int .i64 (s.ackN una ls), .int .i64 (s.ackE una ls)]) (by simp [results, Try.results74, go_sem, d0, d1]) rfl ⟨rfl, HS.out, HCC.out⟩
set_option maxHeartbeats 1000000 in
theorem scacked_any (B lb : Nat) (s : Sc) (una : Int) (la : Option Addr) (lc : Nat) (ls : List Sp) (w : World) (ok : s.Ok) (hs : ScAt B lb s w) (hl : InL B la ls w) (hlen : (s.sk ++ ls).length ≤ 1099511627776) :
    Calls Try.prog 34 #[.pointer (some ⟨B, 0, none⟩), .int .i64 una, .slice la ls.length lc] w fun e w' => e = .returned (.tuple #[.int .i64 (s.ackN una ls), .int .i64 (s.ackE una ls)]) ∧ ScAt B lb (s.acked una ls) w' ∧ Chg B w w' := by
  have hlt := hs.lt
  have hb1 := (Below.refl w.heap.size w).alloc (Nat.le_refl _) (.cells #[.pointer (some ⟨B, 0, none⟩)] 42)
  have hb2 := hb1.alloc (by simp) (.cells #[.int .i64 una] 3)
  have hb := hb2.alloc (by simp; omega) (.cells #[.slice la ls.length lc] 29)
  have a0 := ((show At w.heap.size 0 (.pointer (some ⟨B, 0, none⟩)) _ from At.new (W := w) (vs := #[.pointer (some ⟨B, 0, none⟩)]) 42 rfl rfl).alloc (.cells #[.int .i64 una] 3)).alloc (.cells #[.slice la ls.length lc] 29)
  have a1 := (show At (w.heap.size + 1) 0 (.int .i64 una) _ from At.new (W := w.alloc (.cells #[.pointer (some ⟨B, 0, none⟩)] 42)) (vs := #[.int .i64 una]) 3 (by simp) rfl).alloc (.cells #[.slice la ls.length lc] 29)
  have a2 := (show At (w.heap.size + 2) 0 (.slice la ls.length lc) _ from At.new (W := (w.alloc (.cells #[.pointer (some ⟨B, 0, none⟩)] 42)).alloc (.cells #[.int .i64 una] 3)) (vs := #[.slice la ls.length lc]) 29 (by simp) rfl)
  have hc := Chg.of_below (B := B) hb
  have HU := Lib.hid (unless_acked (w.heap.size + 1) w.heap.size (w.heap.size + 2) B lb s una la lc ls (((w.alloc (.cells #[.pointer (some ⟨B, 0, none⟩)] 42)).alloc (.cells #[.int .i64 una] 3)).alloc (.cells #[.slice la ls.length lc] 29)) ok a1.1 a0.1 a2.1 ⟨by omega, by omega, by omega⟩ (hs.below hb) (hl.chg hc) hlen)
  have HC := Lib.hid hc
  have c0 := a0.1
  clear hb1 hb2 hb a0 a1 a2 hc hs hl ok hlen
  go_enter Try.func34, Try.ntmps34
  go_wp2_with fail
  generalize ((w.alloc (.cells #[.pointer (some ⟨B, 0, none⟩)] 42)).alloc (.cells #[.int .i64 una] 3)).alloc (.cells #[.slice la ls.length lc] 29) = w1 at HU HC c0 ⊢
  refine (HU.out).mono ?_
  rintro e w2 ⟨rfl, hS, hch⟩
  have HCC := Lib.hid (HC.out.trans hch)
  have HS := Lib.hid hS
  clear c0 hS hch HU HC
  go_wp2_with fail
  have d0 := (show At w2.heap.size 0 (.int .i64 (s.ackN una ls)) (w2.alloc (.cells #[.int .i64 (s.ackN una ls), .int .i64 (s.ackE una ls)] 111)) from At.new (W := w2) (vs := #[.int .i64 (s.ackN una ls), .int .i64 (s.ackE una ls)]) 111 rfl rfl).1
  have d1 := (show At w2.heap.size 1 (.int .i64 (s.ackE una ls)) (w2.alloc (.cells #[.int .i64 (s.ackN una ls), .int .i64 (s.ackE una ls)] 111)) from At.new (W := w2) (vs := #[.int .i64 (s.ackN una ls), .int .i64 (s.ackE una ls)]) 111 rfl rfl).1
  have hb3 := sgBel w2 (.cells #[.int .i64 (s.ackN una ls), .int .i64 (s.ackE una ls)] 111)
  replace HS := Lib.hid (HS.out.below hb3)
  replace HCC := Lib.hid (HCC.out.trans (Chg.of_below hb3))
  clear hb3
  generalize (w2.alloc (.cells #[.int .i64 (s.ackN una ls), .int .i64 (s.ackE una ls)] 111)) = w3 at HS HCC d0 d1 ⊢
  refine wp_region_held_drew (S := (fun W : World => W.cell? ⟨w2.heap.size, 0, none⟩ = some (.int .i64 (s.ackN una ls)) ∧ W.cell? ⟨w2.heap.size, 1, none⟩ = some (.int .i64 (s.ackE una ls)))) (by kernel_rfl) (⟨d0, d1⟩) (fun hHeld => ?_)
  refine wpAnyH_take (i := 0) (v := ?_) (by simp only [List.getElem?_toArray, List.getElem?_cons_zero]; rfl) (by kernel_rfl) (by kernel_rfl) (by kernel_rfl) (by exact fun _ _ _ h => h) (Or.inl ⟨by rfl, ?_⟩) (by assumption) ?_
  rotate_left 1
  · intro w hSw; (obtain ⟨z0, z1⟩ := hSw); go_simp; (try with_reducible rfl)
  (try simp only [Act.put, List.setIfInBounds_toArray, List.set_cons_zero, List.set_cons_succ])
  refine wpAnyH_take (i := 1) (v := ?_) (by simp only [List.getElem?_toArray, List.getElem?_cons_succ, List.getElem?_cons_zero]; rfl) (by kernel_rfl) (by kernel_rfl) (by kernel_rfl) (by exact fun _ _ _ h => h) (Or.inl ⟨by rfl, ?_⟩) (by assumption) ?_
  rotate_left 1
  · intro w hSw; (obtain ⟨z0, z1⟩ := hSw); go_simp; (try with_reducible rfl)
  (try simp only [Act.put, List.setIfInBounds_toArray, List.set_cons_zero, List.set_cons_succ])
  refine wpAnyH_take (i := 2) (v := ?_) (by simp only [List.getElem?_toArray, List.getElem?_cons_succ, List.getElem?_cons_zero]; rfl) (by kernel_rfl) (by kernel_rfl) (by kernel_rfl) (by exact fun _ _ _ h => h) (Or.inl ⟨by rfl, ?_⟩) (by assumption) ?_
  rotate_left 1
  · intro w hSw; (obtain ⟨z0, z1⟩ := hSw); go_simp; (try with_reducible rfl)
  (try simp only [Act.put, List.setIfInBounds_toArray, List.set_cons_zero, List.set_cons_succ])
  refine wpAnyH_take (i := 3) (v := ?_) (by simp only [List.getElem?_toArray, List.getElem?_cons_succ, List.getElem?_cons_zero]; rfl) (by kernel_rfl) (by kernel_rfl) (by kernel_rfl) (by exact fun _ _ _ h => h) (Or.inl ⟨by rfl, ?_⟩) (by assumption) ?_
  rotate_left 1
  · intro w hSw; (obtain ⟨z0, z1⟩ := hSw); go_simp; (try with_reducible rfl)
  (try simp only [Act.put, List.setIfInBounds_toArray, List.set_cons_zero, List.set_cons_succ])
  refine wpAnyH_take (i := 4) (v := ?_) (by simp only [List.getElem?_toArray, List.getElem?_cons_succ, List.getElem?_cons_zero]; rfl) (by kernel_rfl) (by kernel_rfl) (by kernel_rfl) (by exact fun _ _ _ h => h) (Or.inl ⟨by rfl, ?_⟩) (by assumption) ?_
  rotate_left 1
  · intro w hSw; (obtain ⟨z0, z1⟩ := hSw); go_simp; (try with_reducible rfl)
  (try simp only [Act.put, List.setIfInBounds_toArray, List.set_cons_zero, List.set_cons_succ])
  refine wpAnyH_take (i := 5) (v := ?_) (by simp only [List.getElem?_toArray, List.getElem?_cons_succ, List.getElem?_cons_zero]; rfl) (by kernel_rfl) (by kernel_rfl) (by kernel_rfl) (by exact fun _ _ _ h => h) (Or.inl ⟨by rfl, ?_⟩) (by assumption) ?_
  rotate_left 1
  · intro w hSw; (obtain ⟨z0, z1⟩ := hSw); go_simp; (try with_reducible rfl)
  (try simp only [Act.put, List.setIfInBounds_toArray, List.set_cons_zero, List.set_cons_succ])
  refine wpAnyH_done (by kernel_rfl) ?_ _
  clear hHeld
  replace HS := Lib.hid (HS.out.below (Below.refl _ _).drew)
  replace HCC := Lib.hid HCC.out.drew
  go_wp2_with fail
  exact bodyPost_ret (v := .tuple #[.int .i64 (s.ackN una ls), .int .i64 (s.ackE una ls)]) (by simp [results, Try.results34, go_sem]) rfl ⟨rfl, HS.out, HCC.out⟩
end Go.Proofs.Ytncjeleabpodaaa
