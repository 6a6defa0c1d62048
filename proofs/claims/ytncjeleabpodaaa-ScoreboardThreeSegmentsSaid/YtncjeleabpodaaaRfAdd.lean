/- The reference's Add. -/
import Derived.Test.YtncjeleabpodaaaRfPl
import Derived.Test.YtncjeleabpodaaaRgApp
import Derived.Deep.LoopGhost
import Derived.Deep.CutBlock
import Derived.Deep.DeepCutAuto
namespace Go.Proofs.Ytncjeleabpodaaa
open Go.RowKit Go.Shelf
theorem spat_drop {W : World} {n b off : Nat} {L : List Sp} (h : SpAt W n (some ⟨b, off, none⟩) L) {k : Nat} (hk : k < L.length) : SpAt W n (some ⟨b, off + k * 2, none⟩) (L.drop k) := by
  refine ⟨by have := h.small; rw [List.length_drop]; omega, fun hl => ?_⟩
  obtain ⟨b1, o1, e, hb, hc⟩ := h.cells (by omega)
  cases e
  refine ⟨b, off + k * 2, rfl, hb, fun i hi => ?_⟩
  rw [List.length_drop] at hi
  have := hc (k + i) (by omega)
  rw [List.getElem_drop, show off + k * 2 + i * 2 = off + (k + i) * 2 by omega]
  exact this
theorem canonF_pair2 {e : Int} {L : List Sp} (h : canonF e L = true) : L.Pairwise fun x y => x.2 ≤ y.2 := by
  induction L generalizing e with
  | nil => exact List.Pairwise.nil
  | cons x l ih =>
    rw [canonF_cons] at h
    refine List.Pairwise.cons (fun y hy => ?_) (ih h.2)
    have h1 := canonF_ok h.2 y hy
    have := canonF_gt h.2 (show Mem y.1 l from ⟨y, hy, Int.le_refl _, h1.2.1⟩)
    have := h1.2.1
    omega
theorem drop_ge {L : List Sp} (h : canonB L = true) {k : Nat} (hk : k < L.length) {c : Int} (hc : c ≤ L[k].2) : ∀ x ∈ L.drop k, c ≤ x.2 := by
  have hp := canonF_pair2 h
  intro x hx
  rw [List.drop_eq_getElem_cons hk] at hx
  rcases List.mem_cons.1 hx with rfl | hx
  · exact hc
  · obtain ⟨i, hi, rfl⟩ := List.mem_iff_getElem.1 hx
    rw [List.length_drop] at hi
    rw [List.getElem_drop]
    have := List.pairwise_iff_getElem.1 hp k (k + 1 + i) hk (by omega) (by omega)
    omega
set_option maxRecDepth 100000 in
set_option maxHeartbeats 2000000 in
theorem radd_any (w : World) (n₀ : Nat) (a : Option Addr) (cap : Nat) (L : List Sp) (s : Sp) (hc : SpAt w n₀ a L) (hcap : L.length ≤ cap) (hn : n₀ ≤ w.heap.size) :
    Calls Try.prog 109 #[.slice a L.length cap, .agg #[.int .i64 s.1, .int .i64 s.2]] w fun e w' => ∃ v, e = .returned v ∧ OwnSp w' w.heap.size v (addL L s) ∧ Below w.heap.size w w' := by
  obtain ⟨s1, s2⟩ := s
  have hb0 := (Below.refl w.heap.size w).alloc (Nat.le_refl _) (.cells #[.int .i64 s1, .int .i64 s2] 51)
  have HS := Lib.hid hc
  clear hc
  have HN := Lib.hid hn
  clear hn
  have hn := HN.out
  go_enter Try.func109, Try.ntmps109
  go_wp2_with fail
  refine (rvalid_any _ n₀ a cap L (HS.out.below (hb0.mono HN.out)) (by simp; omega)).mono ?_
  rintro e w1 ⟨rfl, hb⟩
  obtain ⟨z0, y0⟩ := (At.new (W := w) (i := 0) (v := .int .i64 s1) (vs := #[.int .i64 s1, .int .i64 s2]) 51 rfl rfl).below hb (by simp)
  obtain ⟨z1, y1⟩ := (At.new (W := w) (i := 1) (v := .int .i64 s2) (vs := #[.int .i64 s1, .int .i64 s2]) 51 rfl rfl).below hb (by simp)
  have HB := Lib.hid (hb0.trans (hb.mono (by simp)))
  have hw1 : w.heap.size < w1.heap.size := by have := hb.size; simp at this; omega
  clear hb hb0
  cases hv : canonB L
  · have HTK := Lib.hid (show takesB L (s1, s2) = false by unfold takesB; rw [hv]; rfl)
    clear hv
    go_wp2_with fail
    go_ret
    refine ⟨_, rfl, ?_, HB.out⟩
    unfold addL
    rw [HTK.out]
    exact OwnSp.nil _ _
  · go_wp2_with fail
    refine (one_any s1 s2 w1).mono ?_
    rintro e w2 ⟨rfl, hb⟩
    replace z0 := cell_bel2 z0 hw1 hb
    replace z1 := cell_bel2 z1 hw1 hb
    replace y0 := (show w2.frozen? ⟨w.heap.size, 0, none⟩ = false from (hb.frozen (p := ⟨w.heap.size, 0, none⟩) hw1).trans y0)
    replace y1 := (show w2.frozen? ⟨w.heap.size, 1, none⟩ = false from (hb.frozen (p := ⟨w.heap.size, 1, none⟩) hw1).trans y1)
    replace HB := Lib.hid (HB.out.trans (hb.mono HB.out.size))
    have hw2 := Nat.lt_of_lt_of_le hw1 hb.size
    clear hb hw1
    cases ho : okB (s1, s2)
    · have HTK := Lib.hid (show takesB L (s1, s2) = false by rw [takesB_one, hv, ho]; rfl)
      clear hv ho
      go_wp2_with fail
      go_ret
      refine ⟨_, rfl, ?_, HB.out⟩
      unfold addL
      rw [HTK.out]
      exact OwnSp.nil _ _
    · have HTK := Lib.hid (show takesB L (s1, s2) = true by rw [takesB_one, hv, ho]; rfl)
      have HO := Lib.hid (okB_iff.1 ho)
      have HV := Lib.hid hv
      clear ho hv
      go_upto_block 0 with fail
      have hz0 : WI w.heap.size w.heap.size s1 s2 w (.slice none 0 0) [] w2 := ⟨OwnSp.nil _ _, ⟨z0, y0⟩, ⟨z1, y1⟩, by simp [Value.ownBlock], HB.out⟩
      have HW0 := Lib.hid hz0
      clear hz0 z0 z1 y0 y1 HB hw2
      go_cut [5, 6] (fun ov kv wx => ∃ k : Nat, kv = .int .i64 (k : Int) ∧ k ≤ L.length ∧ WI w.heap.size w.heap.size s1 s2 w ov (L.take k) wx ∧ addF (s1, s2) L = L.take k ++ addF (s1, s2) (L.drop k) ∧ ∀ x ∈ L.drop k, s1 ≤ x.2)
      case first =>
        go_wp2_with fail
        go_loopg [5, 6] L.length (fun g ov kv wr => ∃ (k : Nat), kv = .int .i64 (k : Int) ∧ g + k = L.length ∧ WI w.heap.size w.heap.size s1 s2 w ov (L.take k) wr ∧ addF (s1, s2) L = L.take k ++ addF (s1, s2) (L.drop k))
        case atStart => exact ⟨0, rfl, rfl, HW0.out, rfl⟩
        case round =>
          clear HW0
          obtain ⟨k, rfl, hg, hwi, had⟩ := hrel
          have hws := hwi.below.size
          have HW := Lib.hid hwi
          have HA := Lib.hid had
          obtain ⟨z0, z1⟩ := hwi.cells
          clear hwi had
          by_cases hk : k < L.length
          · obtain ⟨b, off, rfl, hbk, hcs⟩ := HS.out.cells (by omega)
            obtain ⟨d0, d1⟩ := hcs k hk
            clear hcs
            have hkr : (k : Int) < (L.length : Int) := by omega
            replace d0 := cell_bel2 d0 (by omega) HW.out.below
            replace d1 := cell_bel2 d1 (by omega) HW.out.below
            have hsmL := HS.out.small
            have HDR := Lib.hid (List.drop_eq_getElem_cons hk)
            have HTK2 := Lib.hid (List.take_succ_eq_append_getElem hk)
            have HGE := Lib.hid (fun (c : Int) (h : c ≤ L[k].2) => drop_ge HV.out hk h)
            generalize L[k] = x at d0 d1 HDR HTK2 HGE
            obtain ⟨x1, x2⟩ := x
            dsimp only at d0 d1
            by_cases hlt : x2 < s1
            · go_wp2_with fail
              go_quiet (fail)
              have hnq : WI w.heap.size w.heap.size s1 s2 w u5 (L.take k) (wr.drewN nq) := HW.out.drewN nq
              have HW3 := Lib.hid hnq
              have hws3 := hnq.below.size
              replace d0 := (show (wr.drewN nq).cell? _ = _ from d0)
              replace d1 := (show (wr.drewN nq).cell? _ = _ from d1)
              replace z0 := (show (wr.drewN nq).cell? _ = _ from z0)
              replace z1 := (show (wr.drewN nq).cell? _ = _ from z1)
              clear hnq HW hws
              generalize wr.drewN nq = w3 at HW3 d0 d1 z0 z1 hws3 ⊢
              have hlt2 : (L.take k).length ≤ 4398046511104 := by rw [List.length_take]; omega
              go_wp2_with (first | (at_builtin; refine wpList_append_span _ rfl _ _ rfl w.heap.size _ _ rfl (HW3.out.own.alloc _) hlt2 _ (x1, x2) rfl (by simp) (by simp) (by simp; omega) ?_))
              intro v' w' ho hgr hbl
              have hwi := (HW3.out.alloc (by omega) (.cells #[.int .i64 x1, .int .i64 x2] 51)).app (Nat.le_refl _) ho hgr (by rcases hbl with h | ⟨kk, h, hk⟩; exact .inl h; exact .inr ⟨kk, h, by rw [World.size_alloc]; exact hk⟩)
              have HW4 := Lib.hid hwi
              clear ho hgr hbl hwi z0 z1 d0 d1
              go_wp2_with fail
              go_roundg (gk - 1)
              case measure => omega
              case rel => exact ⟨k + 1, by first | go_num | (have hsm := HS.out.small; have e : wrap64 ((k : Int) + 1) = ((k + 1 : Nat) : Int) := (by unfold wrap64; omega); rw [e]), by omega, by rw [HTK2.out]; exact HW4.out, by rw [HA.out, HDR.out, HTK2.out, List.append_assoc]; show _ ++ (if x2 < s1 then _ else _) = _; rw [if_pos hlt]; rfl⟩
            · have hge : s1 ≤ x2 := by omega
              have hd : decide (x2 < s1) = false := by rw [decide_eq_false_iff_not]; exact hlt
              go_wp2_with fail
              go_quiet (fail)
              go_wp2_with fail
              go_meet
              case rel => exact ⟨k, rfl, by omega, HW.out.drewN nq, HA.out, HGE.out s1 hge⟩
          · go_wp2_with fail
            go_quiet (fail)
            go_wp2_with fail
            go_meet
            case rel => exact ⟨k, rfl, by omega, HW.out.drewN nq, HA.out, by rw [List.drop_eq_nil_of_le (by omega)]; intro x hx; cases hx⟩
      case rest =>
        clear HW0
        obtain ⟨k0, rfl, hk0, hwi, had, hge⟩ := hcut
        have HW0 := Lib.hid hwi
        have HA := Lib.hid had
        have HG0 := Lib.hid hge
        clear hwi had hge
        have HO0 := Lib.hid (show ∃ O, O = L.take k0 from ⟨_, rfl⟩)
        obtain ⟨O, hO⟩ := HO0.out
        have HOL := Lib.hid (show O.length ≤ 1099511627776 by rw [hO, List.length_take]; have := HS.out.small; omega)
        rw [← hO] at HW0 HA
        clear hO HO0
        go_upto_block 2 with fail
        go_cut [6] (fun kv wx => ∃ (k : Nat) (a b : Int), kv = .int .i64 (k : Int) ∧ k ≤ L.length ∧ WI w.heap.size w.heap.size a b w u5 O wx ∧ addF (s1, s2) L = O ++ ((a, b) :: L.drop k))
        case first =>
          go_wp2_with fail
          go_loopg [6] (L.length - k0) (fun g kv wr => ∃ (k : Nat) (a b : Int), kv = .int .i64 (k : Int) ∧ g + k = L.length ∧ WI w.heap.size w.heap.size a b w u5 O wr ∧ addF (s1, s2) L = O ++ addF (a, b) (L.drop k) ∧ ∀ x ∈ L.drop k, a ≤ x.2)
          case atStart => exact ⟨k0, s1, s2, rfl, (by omega), HW0.out, HA.out, HG0.out⟩
          case round =>
            clear HW0 HA HG0
            obtain ⟨k, a, b, rfl, hg, hwi, had, hge⟩ := hrel
            have hws := hwi.below.size
            have HW := Lib.hid hwi
            have HA := Lib.hid had
            have HG := Lib.hid hge
            obtain ⟨z0, z1⟩ := hwi.cells
            clear hwi had hge
            by_cases hk : k < L.length
            · obtain ⟨sb, off, rfl, hbk, hcs⟩ := HS.out.cells (by omega)
              obtain ⟨d0, d1⟩ := hcs k hk
              clear hcs
              have hkr : (k : Int) < (L.length : Int) := by omega
              replace d0 := cell_bel2 d0 (by omega) HW.out.below
              replace d1 := cell_bel2 d1 (by omega) HW.out.below
              have HDR := Lib.hid (List.drop_eq_getElem_cons hk)
              have HSM := Lib.hid (HS.out.small)
              generalize L[k] = x at d0 d1 HDR
              obtain ⟨x1, x2⟩ := x
              dsimp only at d0 d1
              have hax : a ≤ x2 := by have h := HG.out (x1, x2) (by rw [HDR.out]; exact List.mem_cons_self); exact h
              by_cases hle : x1 ≤ b
              · go_wp2_with fail
                go_quiet (fail)
                have hnq : WI w.heap.size w.heap.size a b w u5 O (wr.drewN nq) := HW.out.drewN nq
                have HW3 := Lib.hid hnq
                have hws3 := hnq.below.size
                replace d0 := (show (wr.drewN nq).cell? _ = _ from d0)
                replace d1 := (show (wr.drewN nq).cell? _ = _ from d1)
                replace z0 := (show (wr.drewN nq).cell? _ = _ from z0)
                replace z1 := (show (wr.drewN nq).cell? _ = _ from z1)
                clear hnq HW hws
                generalize wr.drewN nq = w3 at HW3 d0 d1 z0 z1 hws3 ⊢
                go_upto_region 9 with fail
                clear z0 z1
                obtain ⟨z0, z1⟩ := HW3.out.cells
                have hK := (show (fun W : World => W.cell? ⟨sb, off + k * 2, none⟩ = some (.int .i64 x1)) w3 from d0)
                refine wp_region_held_drew (S := (fun W : World => W.cell? ⟨sb, off + k * 2, none⟩ = some (.int .i64 x1))) (by kernel_rfl) (hK) (fun hHeld => ?_)
                clear hK
                obtain ⟨w4, hw4⟩ : ∃ y, y = w3.drew := ⟨_, rfl⟩
                have HW4 := Lib.hid (show WI w.heap.size w.heap.size a b w u5 O w4 by rw [hw4]; exact HW3.out.drewN 1)
                have d0n := (show w4.cell? ⟨sb, off + k * 2, none⟩ = some (.int .i64 x1) by rw [hw4]; exact d0)
                have d1n := (show w4.cell? ⟨sb, off + k * 2 + 1, none⟩ = some (.int .i64 x2) by rw [hw4]; exact d1)
                rw [← hw4] at hHeld ⊢
                clear hw4 HW3 d0 d1 z0 z1
                obtain ⟨z0, y0⟩ := HW4.out.x0
                refine wpAnyH_take (i := 0) (v := ?_) (by simp only [List.getElem?_toArray, List.getElem?_cons_zero]; rfl) (by kernel_rfl) (by kernel_rfl) (by kernel_rfl) (by exact fun _ _ _ h => h) (Or.inl ⟨by rfl, ?_⟩) (by assumption) ?_
                rotate_left 1
                · intro w hSw; (try dsimp only at hSw); go_simp; (try with_reducible rfl)
                (try simp only [Act.put, List.setIfInBounds_toArray, List.set_cons_zero, List.set_cons_succ])
                refine wpAnyH_take (i := 2) (v := ?_) (by simp only [List.getElem?_toArray, List.getElem?_cons_succ, List.getElem?_cons_zero]; rfl) (by kernel_rfl) (by kernel_rfl) (by kernel_rfl) (by exact fun _ _ _ h => h) (Or.inl ⟨by rfl, ?_⟩) (by assumption) ?_
                rotate_left 1
                · intro w hSw; (try dsimp only at hSw); go_simp; (try with_reducible rfl)
                (try simp only [Act.put, List.setIfInBounds_toArray, List.set_cons_zero, List.set_cons_succ])
                refine wpAnyH_take (i := 3) (v := ?_) (by simp only [List.getElem?_toArray, List.getElem?_cons_succ, List.getElem?_cons_zero]; rfl) (by kernel_rfl) (by kernel_rfl) (by kernel_rfl) (by exact fun _ _ _ h => h) (Or.inl ⟨by rfl, ?_⟩) (by assumption) ?_
                rotate_left 1
                · intro w hSw; (try dsimp only at hSw); go_simp; (try with_reducible rfl)
                (try simp only [Act.put, List.setIfInBounds_toArray, List.set_cons_zero, List.set_cons_succ])
                refine wpAnyH_take (i := 4) (v := ?_) (by simp only [List.getElem?_toArray, List.getElem?_cons_succ, List.getElem?_cons_zero]; rfl) (by kernel_rfl) (by kernel_rfl) (by kernel_rfl) (by exact fun _ _ _ h => h) (Or.inl ⟨by rfl, ?_⟩) (by assumption) ?_
                rotate_left 1
                · intro w hSw; (try dsimp only at hSw); go_simp; (try with_reducible rfl)
                (try simp only [Act.put, List.setIfInBounds_toArray, List.set_cons_zero, List.set_cons_succ])
                refine wpAnyH_take (i := 5) (v := ?_) (by simp only [List.getElem?_toArray, List.getElem?_cons_succ, List.getElem?_cons_zero]; rfl) (by kernel_rfl) (by kernel_rfl) (by kernel_rfl) (by exact fun _ _ _ h => h) (Or.inl ⟨by rfl, ?_⟩) (by assumption) ?_
                rotate_left 1
                · intro w hSw; (try dsimp only at hSw); go_simp; (try with_reducible rfl)
                (try simp only [Act.put, List.setIfInBounds_toArray, List.set_cons_zero, List.set_cons_succ])
                refine wpAnyH_take (i := 6) (v := ?_) (by simp only [List.getElem?_toArray, List.getElem?_cons_succ, List.getElem?_cons_zero]; rfl) (by kernel_rfl) (by kernel_rfl) (by kernel_rfl) (by exact fun _ _ _ h => h) (Or.inl ⟨by rfl, ?_⟩) (by assumption) ?_
                rotate_left 1
                · intro w hSw; (try dsimp only at hSw); go_simp; (try with_reducible rfl)
                (try simp only [Act.put, List.setIfInBounds_toArray, List.set_cons_zero, List.set_cons_succ])
                refine wpAnyH_ready (rs := [1]) (by kernel_rfl) (by simp) ?_
                refine AllReadyH.cons (by simp only [List.getElem?_toArray, List.getElem?_cons_succ, List.getElem?_cons_zero]; rfl) (fun Kq hKq => ?_) AllReadyH.nil
                go_simp
                refine hKq.out _ _ (d0n) (fun hHeld2 => ?_)
                clear hKq Kq hHeld
                (try simp only [Act.put, List.setIfInBounds_toArray, List.set_cons_zero, List.set_cons_succ])
                have hHeld := hHeld2
                clear hHeld2
                refine wpAnyH_take (i := 7) (v := ?_) (by simp only [List.getElem?_toArray, List.getElem?_cons_succ, List.getElem?_cons_zero]; rfl) (by kernel_rfl) (by kernel_rfl) (by kernel_rfl) (by exact fun _ _ _ h => h) (Or.inl ⟨by rfl, ?_⟩) (by assumption) ?_
                rotate_left 1
                · intro w hSw; (try dsimp only at hSw); go_simp; (try with_reducible rfl)
                (try simp only [Act.put, List.setIfInBounds_toArray, List.set_cons_zero, List.set_cons_succ])
                refine wpAnyH_take (i := 8) (v := ?_) (by simp only [List.getElem?_toArray, List.getElem?_cons_succ, List.getElem?_cons_zero]; rfl) (by kernel_rfl) (by kernel_rfl) (by kernel_rfl) (by exact fun _ _ _ h => h) (Or.inl ⟨by rfl, ?_⟩) (by assumption) ?_
                rotate_left 1
                · intro w hSw; (try dsimp only at hSw); go_simp; (try with_reducible rfl)
                (try simp only [Act.put, List.setIfInBounds_toArray, List.set_cons_zero, List.set_cons_succ])
                have hKs := (show (fun W : World => W.cell? ⟨sb, off + k * 2, none⟩ = some (.int .i64 x1)) (w4.setCell ⟨w.heap.size, 0, none⟩ (.int .i64 (if x1 < a then x1 else a))) from (World.cell?_setCell_other _ _ _ _ (by intro e; have e2 := congrArg Addr.block e; dsimp only at e2; omega)).trans d0n)
                refine wpAnyH_ready (rs := [9]) (by kernel_rfl) (by simp) ?_
                refine AllReadyH.cons (by simp only [List.getElem?_toArray, List.getElem?_cons_succ, List.getElem?_cons_zero]; rfl) (fun Kq hKq => ?_) AllReadyH.nil
                go_simp
                refine hKq.out _ _ (hKs) (fun hHeld2 => ?_)
                clear hKq Kq hHeld
                (try simp only [Act.put, List.setIfInBounds_toArray, List.set_cons_zero, List.set_cons_succ])
                have hHeld := hHeld2
                clear hHeld2
                refine wpAnyH_done (by kernel_rfl) ?_ _
                clear hHeld hKs
                obtain ⟨mv, hmv⟩ : ∃ mv, mv = (if x1 < a then x1 else a) := ⟨_, rfl⟩
                rw [← hmv]
                have HMV := Lib.hid (show mv = min a x1 by rw [hmv]; split <;> omega)
                clear hmv
                have HW5 := Lib.hid (HW4.out.set0 mv)
                replace d0 := (World.cell?_setCell_other w4 ⟨w.heap.size, 0, none⟩ ⟨sb, off + k * 2, none⟩ (.int .i64 mv) (by intro e; have e2 := congrArg Addr.block e; dsimp only at e2; omega)).trans d0n
                replace d1 := (World.cell?_setCell_other w4 ⟨w.heap.size, 0, none⟩ ⟨sb, off + k * 2 + 1, none⟩ (.int .i64 mv) (by intro e; have e2 := congrArg Addr.block e; dsimp only at e2; omega)).trans d1n
                clear d0n d1n z0 y0 HW4
                generalize w4.setCell ⟨w.heap.size, 0, none⟩ (.int .i64 mv) = w5 at HW5 d0 d1 ⊢
                obtain ⟨z0, z1⟩ := HW5.out.cells
                go_upto_region 10 with fail
                have hK := (show (fun W : World => W.cell? ⟨sb, off + k * 2 + 1, none⟩ = some (.int .i64 x2)) w5 from d1)
                refine wp_region_held_drew (S := (fun W : World => W.cell? ⟨sb, off + k * 2 + 1, none⟩ = some (.int .i64 x2))) (by kernel_rfl) (hK) (fun hHeld => ?_)
                clear hK
                obtain ⟨w6, hw6⟩ : ∃ y, y = w5.drew := ⟨_, rfl⟩
                have HW6 := Lib.hid (show WI w.heap.size w.heap.size mv b w u5 O w6 by rw [hw6]; exact HW5.out.drewN 1)
                have d0n := (show w6.cell? ⟨sb, off + k * 2, none⟩ = some (.int .i64 x1) by rw [hw6]; exact d0)
                have d1n := (show w6.cell? ⟨sb, off + k * 2 + 1, none⟩ = some (.int .i64 x2) by rw [hw6]; exact d1)
                rw [← hw6] at hHeld ⊢
                clear hw6 HW5 d0 d1 z0 z1
                obtain ⟨z1, y1⟩ := HW6.out.x1
                refine wpAnyH_take (i := 0) (v := ?_) (by simp only [List.getElem?_toArray, List.getElem?_cons_zero]; rfl) (by kernel_rfl) (by kernel_rfl) (by kernel_rfl) (by exact fun _ _ _ h => h) (Or.inl ⟨by rfl, ?_⟩) (by assumption) ?_
                rotate_left 1
                · intro w hSw; (try dsimp only at hSw); go_simp; (try with_reducible rfl)
                (try simp only [Act.put, List.setIfInBounds_toArray, List.set_cons_zero, List.set_cons_succ])
                refine wpAnyH_take (i := 2) (v := ?_) (by simp only [List.getElem?_toArray, List.getElem?_cons_succ, List.getElem?_cons_zero]; rfl) (by kernel_rfl) (by kernel_rfl) (by kernel_rfl) (by exact fun _ _ _ h => h) (Or.inl ⟨by rfl, ?_⟩) (by assumption) ?_
                rotate_left 1
                · intro w hSw; (try dsimp only at hSw); go_simp; (try with_reducible rfl)
                (try simp only [Act.put, List.setIfInBounds_toArray, List.set_cons_zero, List.set_cons_succ])
                refine wpAnyH_take (i := 3) (v := ?_) (by simp only [List.getElem?_toArray, List.getElem?_cons_succ, List.getElem?_cons_zero]; rfl) (by kernel_rfl) (by kernel_rfl) (by kernel_rfl) (by exact fun _ _ _ h => h) (Or.inl ⟨by rfl, ?_⟩) (by assumption) ?_
                rotate_left 1
                · intro w hSw; (try dsimp only at hSw); go_simp; (try with_reducible rfl)
                (try simp only [Act.put, List.setIfInBounds_toArray, List.set_cons_zero, List.set_cons_succ])
                refine wpAnyH_take (i := 4) (v := ?_) (by simp only [List.getElem?_toArray, List.getElem?_cons_succ, List.getElem?_cons_zero]; rfl) (by kernel_rfl) (by kernel_rfl) (by kernel_rfl) (by exact fun _ _ _ h => h) (Or.inl ⟨by rfl, ?_⟩) (by assumption) ?_
                rotate_left 1
                · intro w hSw; (try dsimp only at hSw); go_simp; (try with_reducible rfl)
                (try simp only [Act.put, List.setIfInBounds_toArray, List.set_cons_zero, List.set_cons_succ])
                refine wpAnyH_take (i := 5) (v := ?_) (by simp only [List.getElem?_toArray, List.getElem?_cons_succ, List.getElem?_cons_zero]; rfl) (by kernel_rfl) (by kernel_rfl) (by kernel_rfl) (by exact fun _ _ _ h => h) (Or.inl ⟨by rfl, ?_⟩) (by assumption) ?_
                rotate_left 1
                · intro w hSw; (try dsimp only at hSw); go_simp; (try with_reducible rfl)
                (try simp only [Act.put, List.setIfInBounds_toArray, List.set_cons_zero, List.set_cons_succ])
                refine wpAnyH_take (i := 6) (v := ?_) (by simp only [List.getElem?_toArray, List.getElem?_cons_succ, List.getElem?_cons_zero]; rfl) (by kernel_rfl) (by kernel_rfl) (by kernel_rfl) (by exact fun _ _ _ h => h) (Or.inl ⟨by rfl, ?_⟩) (by assumption) ?_
                rotate_left 1
                · intro w hSw; (try dsimp only at hSw); go_simp; (try with_reducible rfl)
                (try simp only [Act.put, List.setIfInBounds_toArray, List.set_cons_zero, List.set_cons_succ])
                refine wpAnyH_ready (rs := [1]) (by kernel_rfl) (by simp) ?_
                refine AllReadyH.cons (by simp only [List.getElem?_toArray, List.getElem?_cons_succ, List.getElem?_cons_zero]; rfl) (fun Kq hKq => ?_) AllReadyH.nil
                go_simp
                refine hKq.out _ _ (d1n) (fun hHeld2 => ?_)
                clear hKq Kq hHeld
                (try simp only [Act.put, List.setIfInBounds_toArray, List.set_cons_zero, List.set_cons_succ])
                have hHeld := hHeld2
                clear hHeld2
                refine wpAnyH_take (i := 7) (v := ?_) (by simp only [List.getElem?_toArray, List.getElem?_cons_succ, List.getElem?_cons_zero]; rfl) (by kernel_rfl) (by kernel_rfl) (by kernel_rfl) (by exact fun _ _ _ h => h) (Or.inl ⟨by rfl, ?_⟩) (by assumption) ?_
                rotate_left 1
                · intro w hSw; (try dsimp only at hSw); go_simp; (try with_reducible rfl)
                (try simp only [Act.put, List.setIfInBounds_toArray, List.set_cons_zero, List.set_cons_succ])
                refine wpAnyH_take (i := 8) (v := ?_) (by simp only [List.getElem?_toArray, List.getElem?_cons_succ, List.getElem?_cons_zero]; rfl) (by kernel_rfl) (by kernel_rfl) (by kernel_rfl) (by exact fun _ _ _ h => h) (Or.inl ⟨by rfl, ?_⟩) (by assumption) ?_
                rotate_left 1
                · intro w hSw; (try dsimp only at hSw); go_simp; (try with_reducible rfl)
                (try simp only [Act.put, List.setIfInBounds_toArray, List.set_cons_zero, List.set_cons_succ])
                have hKs := (show (fun W : World => W.cell? ⟨sb, off + k * 2 + 1, none⟩ = some (.int .i64 x2)) (w6.setCell ⟨w.heap.size, 1, none⟩ (.int .i64 (if b < x2 then x2 else b))) from (World.cell?_setCell_other _ _ _ _ (by intro e; have e2 := congrArg Addr.block e; dsimp only at e2; omega)).trans d1n)
                refine wpAnyH_ready (rs := [9]) (by kernel_rfl) (by simp) ?_
                refine AllReadyH.cons (by simp only [List.getElem?_toArray, List.getElem?_cons_succ, List.getElem?_cons_zero]; rfl) (fun Kq hKq => ?_) AllReadyH.nil
                go_simp
                refine hKq.out _ _ (hKs) (fun hHeld2 => ?_)
                clear hKq Kq hHeld
                (try simp only [Act.put, List.setIfInBounds_toArray, List.set_cons_zero, List.set_cons_succ])
                have hHeld := hHeld2
                clear hHeld2
                refine wpAnyH_done (by kernel_rfl) ?_ _
                clear hHeld hKs
                obtain ⟨mx, hmx⟩ : ∃ mx, mx = (if b < x2 then x2 else b) := ⟨_, rfl⟩
                rw [← hmx]
                have HMX := Lib.hid (show mx = max b x2 by rw [hmx]; split <;> omega)
                clear hmx
                have HW7 := Lib.hid (HW6.out.set1 mx)
                clear d0n d1n z1 y1 HW6
                generalize w6.setCell ⟨w.heap.size, 1, none⟩ (.int .i64 mx) = w7 at HW7 ⊢
                go_wp2_with fail
                go_roundg (gk - 1)
                case measure => omega
                case rel => exact ⟨k + 1, mv, mx, by first | go_num | (have hsm := HSM.out; have e : wrap64 ((k : Int) + 1) = ((k + 1 : Nat) : Int) := (by unfold wrap64; omega); rw [e]), by omega, HW7.out, by rw [HMV.out, HMX.out, HA.out, HDR.out]; show _ ++ (if x2 < a then _ else if b < x1 then _ else _) = _; rw [if_neg (by omega), if_neg (by omega)], fun x hx => by have := HG.out x (by rw [HDR.out]; exact List.mem_cons_of_mem _ hx); have := HMV.out; omega⟩
              · have hd : decide (x1 ≤ b) = false := by rw [decide_eq_false_iff_not]; exact hle
                go_wp2_with fail
                go_quiet (fail)
                go_wp2_with fail
                go_meet
                case rel => exact ⟨k, a, b, rfl, by omega, HW.out.drewN nq, by rw [HA.out, HDR.out]; show _ ++ (if x2 < a then _ else if b < x1 then _ else _) = _; rw [if_neg (by omega), if_pos (by omega)]⟩
            · go_wp2_with fail
              go_quiet (fail)
              go_wp2_with fail
              go_meet
              case rel => exact ⟨k, a, b, rfl, by omega, HW.out.drewN nq, by rw [HA.out, List.drop_eq_nil_of_le (by omega)]; rfl⟩
        case rest =>
          clear HW0 HA HG0
          obtain ⟨k, a1, b1, rfl, hk, hwi, had⟩ := hcut
          have HW := Lib.hid hwi
          have HA := Lib.hid had
          obtain ⟨z0, z1⟩ := hwi.cells
          have hws := hwi.below.size
          have hxw := hwi.x0.lt
          clear hwi had
          have hsmL := HS.out.small
          have hOl := HOL.out
          by_cases hkl : k < L.length
          · obtain ⟨sb, off, rfl, hbk, hcs⟩ := HS.out.cells (by omega)
            have hkr : (k : Int) < (L.length : Int) := by omega
            have hkc : (k : Int) ≤ (cap : Int) := by omega
            have hkn : ¬ k = cap := by omega
            have hkr2 : (k : Int) ≤ (L.length : Int) := by omega
            have hlc : (L.length : Int) ≤ (cap : Int) := by omega
            have HM := Lib.hid (show ∀ W, Below w.heap.size w W → SpAt W W.heap.size (some ⟨sb, off + k * 2, none⟩) (L.drop k) from fun W hb => spat_drop ((HS.out.below (hb.mono HN.out)).mono (Nat.le_trans HN.out hb.size)) (by omega))
            clear hcs
            have hK := (show (fun W : World => W.cell? ⟨w.heap.size, 0, none⟩ = some (.int .i64 a1) ∧ W.cell? ⟨w.heap.size, 1, none⟩ = some (.int .i64 b1)) wc from ⟨z0, z1⟩)
            go_wp2_with fail
            refine wp_region_held_drew (S := (fun W : World => W.cell? ⟨w.heap.size, 0, none⟩ = some (.int .i64 a1) ∧ W.cell? ⟨w.heap.size, 1, none⟩ = some (.int .i64 b1))) (by kernel_rfl) (hK) (fun hHeld => ?_)
            clear hK
            have HWD := Lib.hid (HW.out.drewN 1)
            refine wpAnyH_take (i := 0) (v := ?_) (by simp only [List.getElem?_toArray, List.getElem?_cons_zero]; rfl) (by kernel_rfl) (by kernel_rfl) (by kernel_rfl) (by exact fun _ _ _ h => h) (Or.inl ⟨by rfl, ?_⟩) (by assumption) ?_
            rotate_left 1
            · intro w hSw; (obtain ⟨q0, q1⟩ := hSw); go_simp; (try with_reducible rfl)
            (try simp only [Act.put, List.setIfInBounds_toArray, List.set_cons_zero, List.set_cons_succ])
            refine wpAnyH_take (i := 1) (v := ?_) (by simp only [List.getElem?_toArray, List.getElem?_cons_succ, List.getElem?_cons_zero]; rfl) (by kernel_rfl) (by kernel_rfl) (by kernel_rfl) (by exact fun _ _ _ h => h) (Or.inl ⟨by rfl, ?_⟩) (by assumption) ?_
            rotate_left 1
            · intro w hSw; (obtain ⟨q0, q1⟩ := hSw); go_simp; (try with_reducible rfl)
            (try simp only [Act.put, List.setIfInBounds_toArray, List.set_cons_zero, List.set_cons_succ])
            refine wpAnyH_take (i := 4) (v := ?_) (by simp only [List.getElem?_toArray, List.getElem?_cons_succ, List.getElem?_cons_zero]; rfl) (by kernel_rfl) (by kernel_rfl) (by kernel_rfl) (by exact fun _ _ _ h => h) (Or.inl ⟨by rfl, ?_⟩) (by assumption) ?_
            rotate_left 1
            · intro w hSw; (obtain ⟨q0, q1⟩ := hSw); go_simp; (try with_reducible rfl)
            (try simp only [Act.put, List.setIfInBounds_toArray, List.set_cons_zero, List.set_cons_succ])
            refine wpAnyH_take (i := 5) (v := ?_) (by simp only [List.getElem?_toArray, List.getElem?_cons_succ, List.getElem?_cons_zero]; rfl) (by kernel_rfl) (by kernel_rfl) (by kernel_rfl) (by exact fun _ _ _ h => h) (Or.inl ⟨by rfl, ?_⟩) (by assumption) ?_
            rotate_left 1
            · intro w hSw; (obtain ⟨q0, q1⟩ := hSw); go_simp; (try with_reducible rfl)
            (try simp only [Act.put, List.setIfInBounds_toArray, List.set_cons_zero, List.set_cons_succ])
            refine wpAnyH_take (i := 6) (v := ?_) (by simp only [List.getElem?_toArray, List.getElem?_cons_succ, List.getElem?_cons_zero]; rfl) (by kernel_rfl) (by kernel_rfl) (by kernel_rfl) (by exact fun _ _ _ h => h) (Or.inl ⟨by rfl, ?_⟩) (by assumption) ?_
            rotate_left 1
            · intro w hSw; (obtain ⟨q0, q1⟩ := hSw); go_simp; (try with_reducible rfl)
            (try simp only [Act.put, List.setIfInBounds_toArray, List.set_cons_zero, List.set_cons_succ])
            have HWB := Lib.hid (HWD.out.alloc (by show w.heap.size ≤ wc.heap.size; omega) (.cells #[.int .i64 a1, .int .i64 b1] 51))
            have hK2 := (show (fun W : World => W.cell? ⟨w.heap.size, 0, none⟩ = some (.int .i64 a1) ∧ W.cell? ⟨w.heap.size, 1, none⟩ = some (.int .i64 b1)) ((wc.drewN 1).alloc (.cells #[.int .i64 a1, .int .i64 b1] 51)) from HWB.out.cells)
            refine wpAnyH_ready (rs := [2]) (by kernel_rfl) (by simp) ?_
            refine AllReadyH.cons (by simp only [List.getElem?_toArray, List.getElem?_cons_succ, List.getElem?_cons_zero]; rfl) (fun Kq hKq => ?_) AllReadyH.nil
            go_simp
            refine hKq.out _ _ (hK2) (fun hHeld2 => ?_)
            clear hKq Kq hHeld
            (try simp only [Act.put, List.setIfInBounds_toArray, List.set_cons_zero, List.set_cons_succ])
            have hHeld := hHeld2
            clear hHeld2
            refine wpAnyH_ready (rs := [3]) (by kernel_rfl) (by simp) ?_
            refine AllReadyH.cons (by simp only [List.getElem?_toArray, List.getElem?_cons_succ, List.getElem?_cons_zero]; rfl) (fun Kq hKq => ?_) AllReadyH.nil
            refine step_append_span rfl _ _ rfl w.heap.size _ O (by rfl) HWB.out.own (by omega) wc.heap.size (a1, b1) (by rfl) (At.new (W := wc.drewN 1) (i := 0) (v := .int .i64 a1) (vs := #[.int .i64 a1, .int .i64 b1]) 51 rfl rfl).1 (At.new (W := wc.drewN 1) (i := 1) (v := .int .i64 b1) (vs := #[.int .i64 a1, .int .i64 b1]) 51 rfl rfl).1 HWB.out.below.size ?_
            intro v3 w3 ho3 hg3 hb3
            have hw3 := HWB.out.app (Nat.le_refl _) ho3 hg3 hb3
            have HW3 := Lib.hid hw3
            have hK3 := (show (fun W : World => W.cell? ⟨w.heap.size, 0, none⟩ = some (.int .i64 a1) ∧ W.cell? ⟨w.heap.size, 1, none⟩ = some (.int .i64 b1)) w3 from hw3.cells)
            clear ho3 hg3 hb3 hw3
            refine hKq.out _ _ (hK3) (fun hHeld2 => ?_)
            clear hKq Kq hHeld
            (try simp only [Act.put, List.setIfInBounds_toArray, List.set_cons_zero, List.set_cons_succ])
            have hHeld := hHeld2
            clear hHeld2
            refine wpAnyH_ready (rs := [7]) (by kernel_rfl) (by simp) ?_
            refine AllReadyH.cons (by simp only [List.getElem?_toArray, List.getElem?_cons_succ, List.getElem?_cons_zero]; rfl) (fun Kq hKq => ?_) AllReadyH.nil
            refine step_append_spans rfl _ _ rfl w.heap.size v3 (O ++ [(a1, b1)]) (by rfl) HW3.out.own (by rw [List.length_append]; simp; omega) sb (off + k * 2) (cap - k) (L.drop k) (by rw [List.length_drop]; simp [Act.eval]; omega) (HM.out _ HW3.out.below) HW3.out.below.size ?_
            intro v4 w4 ho4 hg4 hb4
            have hw4 := HW3.out.app (Nat.le_refl _) ho4 hg4 hb4
            have HW4 := Lib.hid hw4
            have hK4 := (show (fun W : World => W.cell? ⟨w.heap.size, 0, none⟩ = some (.int .i64 a1) ∧ W.cell? ⟨w.heap.size, 1, none⟩ = some (.int .i64 b1)) w4 from hw4.cells)
            clear ho4 hg4 hb4 hw4
            refine hKq.out _ _ (hK4) (fun hHeld2 => ?_)
            clear hKq Kq hHeld
            (try simp only [Act.put, List.setIfInBounds_toArray, List.set_cons_zero, List.set_cons_succ])
            have hHeld := hHeld2
            clear hHeld2
            refine wpAnyH_take (i := 8) (v := ?_) (by simp only [List.getElem?_toArray, List.getElem?_cons_succ, List.getElem?_cons_zero]; rfl) (by kernel_rfl) (by kernel_rfl) (by kernel_rfl) (by exact fun _ _ _ h => h) (Or.inl ⟨by rfl, ?_⟩) (by assumption) ?_
            rotate_left 1
            · intro w hSw; (obtain ⟨q0, q1⟩ := hSw); go_simp; (try with_reducible rfl)
            (try simp only [Act.put, List.setIfInBounds_toArray, List.set_cons_zero, List.set_cons_succ])
            refine wpAnyH_done (by kernel_rfl) ?_ _
            clear hHeld
            go_wp2_with fail
            go_ret
            refine ⟨_, rfl, ?_, HW4.out.below⟩
            unfold addL
            rw [if_pos HTK.out, HA.out]
            have h := HW4.out.own; rw [List.append_assoc] at h; exact h
          · obtain rfl : k = L.length := by omega
            have HDN := Lib.hid (List.drop_eq_nil_of_le (Nat.le_refl L.length))
            have hkr2 : (L.length : Int) ≤ (L.length : Int) := by omega
            have hlc : (L.length : Int) ≤ (cap : Int) := by omega
            cases a with
            | none =>
              have hl0 : L.length = 0 := by rcases Nat.eq_zero_or_pos L.length with h | h; exact h; obtain ⟨b9, o9, e9, -⟩ := HS.out.cells h; cases e9
              have hK := (show (fun W : World => W.cell? ⟨w.heap.size, 0, none⟩ = some (.int .i64 a1) ∧ W.cell? ⟨w.heap.size, 1, none⟩ = some (.int .i64 b1)) wc from ⟨z0, z1⟩)
              go_wp2_with fail
              refine wp_region_held_drew (S := (fun W : World => W.cell? ⟨w.heap.size, 0, none⟩ = some (.int .i64 a1) ∧ W.cell? ⟨w.heap.size, 1, none⟩ = some (.int .i64 b1))) (by kernel_rfl) (hK) (fun hHeld => ?_)
              clear hK
              have HWD := Lib.hid (HW.out.drewN 1)
              refine wpAnyH_take (i := 0) (v := ?_) (by simp only [List.getElem?_toArray, List.getElem?_cons_zero]; rfl) (by kernel_rfl) (by kernel_rfl) (by kernel_rfl) (by exact fun _ _ _ h => h) (Or.inl ⟨by rfl, ?_⟩) (by assumption) ?_
              rotate_left 1
              · intro w hSw; (obtain ⟨q0, q1⟩ := hSw); go_simp; (try with_reducible rfl)
              (try simp only [Act.put, List.setIfInBounds_toArray, List.set_cons_zero, List.set_cons_succ])
              refine wpAnyH_take (i := 1) (v := ?_) (by simp only [List.getElem?_toArray, List.getElem?_cons_succ, List.getElem?_cons_zero]; rfl) (by kernel_rfl) (by kernel_rfl) (by kernel_rfl) (by exact fun _ _ _ h => h) (Or.inl ⟨by rfl, ?_⟩) (by assumption) ?_
              rotate_left 1
              · intro w hSw; (obtain ⟨q0, q1⟩ := hSw); go_simp; (try with_reducible rfl)
              (try simp only [Act.put, List.setIfInBounds_toArray, List.set_cons_zero, List.set_cons_succ])
              refine wpAnyH_take (i := 4) (v := ?_) (by simp only [List.getElem?_toArray, List.getElem?_cons_succ, List.getElem?_cons_zero]; rfl) (by kernel_rfl) (by kernel_rfl) (by kernel_rfl) (by exact fun _ _ _ h => h) (Or.inl ⟨by rfl, ?_⟩) (by assumption) ?_
              rotate_left 1
              · intro w hSw; (obtain ⟨q0, q1⟩ := hSw); go_simp; (try with_reducible rfl)
              (try simp only [Act.put, List.setIfInBounds_toArray, List.set_cons_zero, List.set_cons_succ])
              refine wpAnyH_take (i := 5) (v := ?_) (by simp only [List.getElem?_toArray, List.getElem?_cons_succ, List.getElem?_cons_zero]; rfl) (by kernel_rfl) (by kernel_rfl) (by kernel_rfl) (by exact fun _ _ _ h => h) (Or.inl ⟨by rfl, ?_⟩) (by assumption) ?_
              rotate_left 1
              · intro w hSw; (obtain ⟨q0, q1⟩ := hSw); go_simp; (try with_reducible rfl)
              (try simp only [Act.put, List.setIfInBounds_toArray, List.set_cons_zero, List.set_cons_succ])
              refine wpAnyH_take (i := 6) (v := ?_) (by simp only [List.getElem?_toArray, List.getElem?_cons_succ, List.getElem?_cons_zero]; rfl) (by kernel_rfl) (by kernel_rfl) (by kernel_rfl) (by exact fun _ _ _ h => h) (Or.inl ⟨by rfl, ?_⟩) (by assumption) ?_
              rotate_left 1
              · intro w hSw; (obtain ⟨q0, q1⟩ := hSw); go_simp; (try with_reducible rfl)
              (try simp only [Act.put, List.setIfInBounds_toArray, List.set_cons_zero, List.set_cons_succ])
              have HWB := Lib.hid (HWD.out.alloc (by show w.heap.size ≤ wc.heap.size; omega) (.cells #[.int .i64 a1, .int .i64 b1] 51))
              have hK2 := (show (fun W : World => W.cell? ⟨w.heap.size, 0, none⟩ = some (.int .i64 a1) ∧ W.cell? ⟨w.heap.size, 1, none⟩ = some (.int .i64 b1)) ((wc.drewN 1).alloc (.cells #[.int .i64 a1, .int .i64 b1] 51)) from HWB.out.cells)
              refine wpAnyH_ready (rs := [2]) (by kernel_rfl) (by simp) ?_
              refine AllReadyH.cons (by simp only [List.getElem?_toArray, List.getElem?_cons_succ, List.getElem?_cons_zero]; rfl) (fun Kq hKq => ?_) AllReadyH.nil
              go_simp
              refine hKq.out _ _ (hK2) (fun hHeld2 => ?_)
              clear hKq Kq hHeld
              (try simp only [Act.put, List.setIfInBounds_toArray, List.set_cons_zero, List.set_cons_succ])
              have hHeld := hHeld2
              clear hHeld2
              refine wpAnyH_ready (rs := [3]) (by kernel_rfl) (by simp) ?_
              refine AllReadyH.cons (by simp only [List.getElem?_toArray, List.getElem?_cons_succ, List.getElem?_cons_zero]; rfl) (fun Kq hKq => ?_) AllReadyH.nil
              refine step_append_span rfl _ _ rfl w.heap.size _ O (by rfl) HWB.out.own (by omega) wc.heap.size (a1, b1) (by rfl) (At.new (W := wc.drewN 1) (i := 0) (v := .int .i64 a1) (vs := #[.int .i64 a1, .int .i64 b1]) 51 rfl rfl).1 (At.new (W := wc.drewN 1) (i := 1) (v := .int .i64 b1) (vs := #[.int .i64 a1, .int .i64 b1]) 51 rfl rfl).1 HWB.out.below.size ?_
              intro v3 w3 ho3 hg3 hb3
              have hw3 := HWB.out.app (Nat.le_refl _) ho3 hg3 hb3
              have HW3 := Lib.hid hw3
              have hK3 := (show (fun W : World => W.cell? ⟨w.heap.size, 0, none⟩ = some (.int .i64 a1) ∧ W.cell? ⟨w.heap.size, 1, none⟩ = some (.int .i64 b1)) w3 from hw3.cells)
              clear ho3 hg3 hb3 hw3
              refine hKq.out _ _ (hK3) (fun hHeld2 => ?_)
              clear hKq Kq hHeld
              (try simp only [Act.put, List.setIfInBounds_toArray, List.set_cons_zero, List.set_cons_succ])
              have hHeld := hHeld2
              clear hHeld2
              refine wpAnyH_ready (rs := [7]) (by kernel_rfl) (by simp) ?_
              refine AllReadyH.cons (by simp only [List.getElem?_toArray, List.getElem?_cons_succ, List.getElem?_cons_zero]; rfl) (fun Kq hKq => ?_) AllReadyH.nil
              refine step_append_zero rfl _ _ rfl w.heap.size v3 (O ++ [(a1, b1)]) (by rfl) HW3.out.own _ _ (by rfl) ?_
              refine hKq.out _ _ (hK3) (fun hHeld2 => ?_)
              clear hKq Kq hHeld
              (try simp only [Act.put, List.setIfInBounds_toArray, List.set_cons_zero, List.set_cons_succ])
              have hHeld := hHeld2
              clear hHeld2
              refine wpAnyH_take (i := 8) (v := ?_) (by simp only [List.getElem?_toArray, List.getElem?_cons_succ, List.getElem?_cons_zero]; rfl) (by kernel_rfl) (by kernel_rfl) (by kernel_rfl) (by exact fun _ _ _ h => h) (Or.inl ⟨by rfl, ?_⟩) (by assumption) ?_
              rotate_left 1
              · intro w hSw; (obtain ⟨q0, q1⟩ := hSw); go_simp; (try with_reducible rfl)
              (try simp only [Act.put, List.setIfInBounds_toArray, List.set_cons_zero, List.set_cons_succ])
              refine wpAnyH_done (by kernel_rfl) ?_ _
              clear hHeld
              go_wp2_with fail
              go_ret
              refine ⟨_, rfl, ?_, HW3.out.below⟩
              unfold addL
              rw [if_pos HTK.out, HA.out]
              rw [HDN.out]; exact HW3.out.own
            | some ad =>
              obtain ⟨sb, off, so⟩ := ad
              by_cases hcl : cap = L.length
              · subst hcl
                have hK := (show (fun W : World => W.cell? ⟨w.heap.size, 0, none⟩ = some (.int .i64 a1) ∧ W.cell? ⟨w.heap.size, 1, none⟩ = some (.int .i64 b1)) wc from ⟨z0, z1⟩)
                go_wp2_with fail
                refine wp_region_held_drew (S := (fun W : World => W.cell? ⟨w.heap.size, 0, none⟩ = some (.int .i64 a1) ∧ W.cell? ⟨w.heap.size, 1, none⟩ = some (.int .i64 b1))) (by kernel_rfl) (hK) (fun hHeld => ?_)
                clear hK
                have HWD := Lib.hid (HW.out.drewN 1)
                refine wpAnyH_take (i := 0) (v := ?_) (by simp only [List.getElem?_toArray, List.getElem?_cons_zero]; rfl) (by kernel_rfl) (by kernel_rfl) (by kernel_rfl) (by exact fun _ _ _ h => h) (Or.inl ⟨by rfl, ?_⟩) (by assumption) ?_
                rotate_left 1
                · intro w hSw; (obtain ⟨q0, q1⟩ := hSw); go_simp; (try with_reducible rfl)
                (try simp only [Act.put, List.setIfInBounds_toArray, List.set_cons_zero, List.set_cons_succ])
                refine wpAnyH_take (i := 1) (v := ?_) (by simp only [List.getElem?_toArray, List.getElem?_cons_succ, List.getElem?_cons_zero]; rfl) (by kernel_rfl) (by kernel_rfl) (by kernel_rfl) (by exact fun _ _ _ h => h) (Or.inl ⟨by rfl, ?_⟩) (by assumption) ?_
                rotate_left 1
                · intro w hSw; (obtain ⟨q0, q1⟩ := hSw); go_simp; (try with_reducible rfl)
                (try simp only [Act.put, List.setIfInBounds_toArray, List.set_cons_zero, List.set_cons_succ])
                refine wpAnyH_take (i := 4) (v := ?_) (by simp only [List.getElem?_toArray, List.getElem?_cons_succ, List.getElem?_cons_zero]; rfl) (by kernel_rfl) (by kernel_rfl) (by kernel_rfl) (by exact fun _ _ _ h => h) (Or.inl ⟨by rfl, ?_⟩) (by assumption) ?_
                rotate_left 1
                · intro w hSw; (obtain ⟨q0, q1⟩ := hSw); go_simp; (try with_reducible rfl)
                (try simp only [Act.put, List.setIfInBounds_toArray, List.set_cons_zero, List.set_cons_succ])
                refine wpAnyH_take (i := 5) (v := ?_) (by simp only [List.getElem?_toArray, List.getElem?_cons_succ, List.getElem?_cons_zero]; rfl) (by kernel_rfl) (by kernel_rfl) (by kernel_rfl) (by exact fun _ _ _ h => h) (Or.inl ⟨by rfl, ?_⟩) (by assumption) ?_
                rotate_left 1
                · intro w hSw; (obtain ⟨q0, q1⟩ := hSw); go_simp; (try with_reducible rfl)
                (try simp only [Act.put, List.setIfInBounds_toArray, List.set_cons_zero, List.set_cons_succ])
                refine wpAnyH_take (i := 6) (v := ?_) (by simp only [List.getElem?_toArray, List.getElem?_cons_succ, List.getElem?_cons_zero]; rfl) (by kernel_rfl) (by kernel_rfl) (by kernel_rfl) (by exact fun _ _ _ h => h) (Or.inl ⟨by rfl, ?_⟩) (by assumption) ?_
                rotate_left 1
                · intro w hSw; (obtain ⟨q0, q1⟩ := hSw); go_simp; (try with_reducible rfl)
                (try simp only [Act.put, List.setIfInBounds_toArray, List.set_cons_zero, List.set_cons_succ])
                have HWB := Lib.hid (HWD.out.alloc (by show w.heap.size ≤ wc.heap.size; omega) (.cells #[.int .i64 a1, .int .i64 b1] 51))
                have hK2 := (show (fun W : World => W.cell? ⟨w.heap.size, 0, none⟩ = some (.int .i64 a1) ∧ W.cell? ⟨w.heap.size, 1, none⟩ = some (.int .i64 b1)) ((wc.drewN 1).alloc (.cells #[.int .i64 a1, .int .i64 b1] 51)) from HWB.out.cells)
                refine wpAnyH_ready (rs := [2]) (by kernel_rfl) (by simp) ?_
                refine AllReadyH.cons (by simp only [List.getElem?_toArray, List.getElem?_cons_succ, List.getElem?_cons_zero]; rfl) (fun Kq hKq => ?_) AllReadyH.nil
                go_simp
                refine hKq.out _ _ (hK2) (fun hHeld2 => ?_)
                clear hKq Kq hHeld
                (try simp only [Act.put, List.setIfInBounds_toArray, List.set_cons_zero, List.set_cons_succ])
                have hHeld := hHeld2
                clear hHeld2
                refine wpAnyH_ready (rs := [3]) (by kernel_rfl) (by simp) ?_
                refine AllReadyH.cons (by simp only [List.getElem?_toArray, List.getElem?_cons_succ, List.getElem?_cons_zero]; rfl) (fun Kq hKq => ?_) AllReadyH.nil
                refine step_append_span rfl _ _ rfl w.heap.size _ O (by rfl) HWB.out.own (by omega) wc.heap.size (a1, b1) (by rfl) (At.new (W := wc.drewN 1) (i := 0) (v := .int .i64 a1) (vs := #[.int .i64 a1, .int .i64 b1]) 51 rfl rfl).1 (At.new (W := wc.drewN 1) (i := 1) (v := .int .i64 b1) (vs := #[.int .i64 a1, .int .i64 b1]) 51 rfl rfl).1 HWB.out.below.size ?_
                intro v3 w3 ho3 hg3 hb3
                have hw3 := HWB.out.app (Nat.le_refl _) ho3 hg3 hb3
                have HW3 := Lib.hid hw3
                have hK3 := (show (fun W : World => W.cell? ⟨w.heap.size, 0, none⟩ = some (.int .i64 a1) ∧ W.cell? ⟨w.heap.size, 1, none⟩ = some (.int .i64 b1)) w3 from hw3.cells)
                clear ho3 hg3 hb3 hw3
                refine hKq.out _ _ (hK3) (fun hHeld2 => ?_)
                clear hKq Kq hHeld
                (try simp only [Act.put, List.setIfInBounds_toArray, List.set_cons_zero, List.set_cons_succ])
                have hHeld := hHeld2
                clear hHeld2
                refine wpAnyH_ready (rs := [7]) (by kernel_rfl) (by simp) ?_
                refine AllReadyH.cons (by simp only [List.getElem?_toArray, List.getElem?_cons_succ, List.getElem?_cons_zero]; rfl) (fun Kq hKq => ?_) AllReadyH.nil
                refine step_append_zero rfl _ _ rfl w.heap.size v3 (O ++ [(a1, b1)]) (by rfl) HW3.out.own _ _ (by rfl) ?_
                refine hKq.out _ _ (hK3) (fun hHeld2 => ?_)
                clear hKq Kq hHeld
                (try simp only [Act.put, List.setIfInBounds_toArray, List.set_cons_zero, List.set_cons_succ])
                have hHeld := hHeld2
                clear hHeld2
                refine wpAnyH_take (i := 8) (v := ?_) (by simp only [List.getElem?_toArray, List.getElem?_cons_succ, List.getElem?_cons_zero]; rfl) (by kernel_rfl) (by kernel_rfl) (by kernel_rfl) (by exact fun _ _ _ h => h) (Or.inl ⟨by rfl, ?_⟩) (by assumption) ?_
                rotate_left 1
                · intro w hSw; (obtain ⟨q0, q1⟩ := hSw); go_simp; (try with_reducible rfl)
                (try simp only [Act.put, List.setIfInBounds_toArray, List.set_cons_zero, List.set_cons_succ])
                refine wpAnyH_done (by kernel_rfl) ?_ _
                clear hHeld
                go_wp2_with fail
                go_ret
                refine ⟨_, rfl, ?_, HW3.out.below⟩
                unfold addL
                rw [if_pos HTK.out, HA.out]
                rw [HDN.out]; exact HW3.out.own
              · have hcl2 : ¬ L.length = cap := fun e => hcl e.symm
                have hK := (show (fun W : World => W.cell? ⟨w.heap.size, 0, none⟩ = some (.int .i64 a1) ∧ W.cell? ⟨w.heap.size, 1, none⟩ = some (.int .i64 b1)) wc from ⟨z0, z1⟩)
                go_wp2_with fail
                refine wp_region_held_drew (S := (fun W : World => W.cell? ⟨w.heap.size, 0, none⟩ = some (.int .i64 a1) ∧ W.cell? ⟨w.heap.size, 1, none⟩ = some (.int .i64 b1))) (by kernel_rfl) (hK) (fun hHeld => ?_)
                clear hK
                have HWD := Lib.hid (HW.out.drewN 1)
                refine wpAnyH_take (i := 0) (v := ?_) (by simp only [List.getElem?_toArray, List.getElem?_cons_zero]; rfl) (by kernel_rfl) (by kernel_rfl) (by kernel_rfl) (by exact fun _ _ _ h => h) (Or.inl ⟨by rfl, ?_⟩) (by assumption) ?_
                rotate_left 1
                · intro w hSw; (obtain ⟨q0, q1⟩ := hSw); go_simp; (try with_reducible rfl)
                (try simp only [Act.put, List.setIfInBounds_toArray, List.set_cons_zero, List.set_cons_succ])
                refine wpAnyH_take (i := 1) (v := ?_) (by simp only [List.getElem?_toArray, List.getElem?_cons_succ, List.getElem?_cons_zero]; rfl) (by kernel_rfl) (by kernel_rfl) (by kernel_rfl) (by exact fun _ _ _ h => h) (Or.inl ⟨by rfl, ?_⟩) (by assumption) ?_
                rotate_left 1
                · intro w hSw; (obtain ⟨q0, q1⟩ := hSw); go_simp; (try with_reducible rfl)
                (try simp only [Act.put, List.setIfInBounds_toArray, List.set_cons_zero, List.set_cons_succ])
                refine wpAnyH_take (i := 4) (v := ?_) (by simp only [List.getElem?_toArray, List.getElem?_cons_succ, List.getElem?_cons_zero]; rfl) (by kernel_rfl) (by kernel_rfl) (by kernel_rfl) (by exact fun _ _ _ h => h) (Or.inl ⟨by rfl, ?_⟩) (by assumption) ?_
                rotate_left 1
                · intro w hSw; (obtain ⟨q0, q1⟩ := hSw); go_simp; (try with_reducible rfl)
                (try simp only [Act.put, List.setIfInBounds_toArray, List.set_cons_zero, List.set_cons_succ])
                refine wpAnyH_take (i := 5) (v := ?_) (by simp only [List.getElem?_toArray, List.getElem?_cons_succ, List.getElem?_cons_zero]; rfl) (by kernel_rfl) (by kernel_rfl) (by kernel_rfl) (by exact fun _ _ _ h => h) (Or.inl ⟨by rfl, ?_⟩) (by assumption) ?_
                rotate_left 1
                · intro w hSw; (obtain ⟨q0, q1⟩ := hSw); go_simp; (try with_reducible rfl)
                (try simp only [Act.put, List.setIfInBounds_toArray, List.set_cons_zero, List.set_cons_succ])
                refine wpAnyH_take (i := 6) (v := ?_) (by simp only [List.getElem?_toArray, List.getElem?_cons_succ, List.getElem?_cons_zero]; rfl) (by kernel_rfl) (by kernel_rfl) (by kernel_rfl) (by exact fun _ _ _ h => h) (Or.inl ⟨by rfl, ?_⟩) (by assumption) ?_
                rotate_left 1
                · intro w hSw; (obtain ⟨q0, q1⟩ := hSw); go_simp; (try with_reducible rfl)
                (try simp only [Act.put, List.setIfInBounds_toArray, List.set_cons_zero, List.set_cons_succ])
                have HWB := Lib.hid (HWD.out.alloc (by show w.heap.size ≤ wc.heap.size; omega) (.cells #[.int .i64 a1, .int .i64 b1] 51))
                have hK2 := (show (fun W : World => W.cell? ⟨w.heap.size, 0, none⟩ = some (.int .i64 a1) ∧ W.cell? ⟨w.heap.size, 1, none⟩ = some (.int .i64 b1)) ((wc.drewN 1).alloc (.cells #[.int .i64 a1, .int .i64 b1] 51)) from HWB.out.cells)
                refine wpAnyH_ready (rs := [2]) (by kernel_rfl) (by simp) ?_
                refine AllReadyH.cons (by simp only [List.getElem?_toArray, List.getElem?_cons_succ, List.getElem?_cons_zero]; rfl) (fun Kq hKq => ?_) AllReadyH.nil
                go_simp
                refine hKq.out _ _ (hK2) (fun hHeld2 => ?_)
                clear hKq Kq hHeld
                (try simp only [Act.put, List.setIfInBounds_toArray, List.set_cons_zero, List.set_cons_succ])
                have hHeld := hHeld2
                clear hHeld2
                refine wpAnyH_ready (rs := [3]) (by kernel_rfl) (by simp) ?_
                refine AllReadyH.cons (by simp only [List.getElem?_toArray, List.getElem?_cons_succ, List.getElem?_cons_zero]; rfl) (fun Kq hKq => ?_) AllReadyH.nil
                refine step_append_span rfl _ _ rfl w.heap.size _ O (by rfl) HWB.out.own (by omega) wc.heap.size (a1, b1) (by rfl) (At.new (W := wc.drewN 1) (i := 0) (v := .int .i64 a1) (vs := #[.int .i64 a1, .int .i64 b1]) 51 rfl rfl).1 (At.new (W := wc.drewN 1) (i := 1) (v := .int .i64 b1) (vs := #[.int .i64 a1, .int .i64 b1]) 51 rfl rfl).1 HWB.out.below.size ?_
                intro v3 w3 ho3 hg3 hb3
                have hw3 := HWB.out.app (Nat.le_refl _) ho3 hg3 hb3
                have HW3 := Lib.hid hw3
                have hK3 := (show (fun W : World => W.cell? ⟨w.heap.size, 0, none⟩ = some (.int .i64 a1) ∧ W.cell? ⟨w.heap.size, 1, none⟩ = some (.int .i64 b1)) w3 from hw3.cells)
                clear ho3 hg3 hb3 hw3
                refine hKq.out _ _ (hK3) (fun hHeld2 => ?_)
                clear hKq Kq hHeld
                (try simp only [Act.put, List.setIfInBounds_toArray, List.set_cons_zero, List.set_cons_succ])
                have hHeld := hHeld2
                clear hHeld2
                refine wpAnyH_ready (rs := [7]) (by kernel_rfl) (by simp) ?_
                refine AllReadyH.cons (by simp only [List.getElem?_toArray, List.getElem?_cons_succ, List.getElem?_cons_zero]; rfl) (fun Kq hKq => ?_) AllReadyH.nil
                refine step_append_zero rfl _ _ rfl w.heap.size v3 (O ++ [(a1, b1)]) (by rfl) HW3.out.own _ _ (by rfl) ?_
                refine hKq.out _ _ (hK3) (fun hHeld2 => ?_)
                clear hKq Kq hHeld
                (try simp only [Act.put, List.setIfInBounds_toArray, List.set_cons_zero, List.set_cons_succ])
                have hHeld := hHeld2
                clear hHeld2
                refine wpAnyH_take (i := 8) (v := ?_) (by simp only [List.getElem?_toArray, List.getElem?_cons_succ, List.getElem?_cons_zero]; rfl) (by kernel_rfl) (by kernel_rfl) (by kernel_rfl) (by exact fun _ _ _ h => h) (Or.inl ⟨by rfl, ?_⟩) (by assumption) ?_
                rotate_left 1
                · intro w hSw; (obtain ⟨q0, q1⟩ := hSw); go_simp; (try with_reducible rfl)
                (try simp only [Act.put, List.setIfInBounds_toArray, List.set_cons_zero, List.set_cons_succ])
                refine wpAnyH_done (by kernel_rfl) ?_ _
                clear hHeld
                go_wp2_with fail
                go_ret
                refine ⟨_, rfl, ?_, HW3.out.below⟩
                unfold addL
                rw [if_pos HTK.out, HA.out]
                rw [HDN.out]; exact HW3.out.own
end Go.Proofs.Ytncjeleabpodaaa
