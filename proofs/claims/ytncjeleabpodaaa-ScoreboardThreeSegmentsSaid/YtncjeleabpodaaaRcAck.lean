/- The reference's Acked. -/
import Derived.Test.YtncjeleabpodaaaRcAbv
import Derived.Deep.LoopGhost
namespace Go.Proofs.Ytncjeleabpodaaa
open Go.RowKit Go.Shelf
set_option maxRecDepth 100000 in
set_option maxHeartbeats 4000000 in
theorem rcacked_any (B lb : Nat) (s : Sc) (una : Int) (la : Option Addr) (lc : Nat) (ls : List Sp) (w : World) (ok : s.Ok) (hs : RcAt B lb s w) (hl : InL B la ls w) :
    Calls Try.prog 93 #[.pointer (some ⟨B, 0, none⟩), .int .i64 una, .slice la ls.length lc] w fun e w' => e = .returned (.tuple #[.int .i64 (s.ackN una ls), .int .i64 (s.ackE una ls)]) ∧ RcAt B lb (s.acked una ls) w' ∧ Chg B w w' := by
  have HOK := Lib.hid ok
  have HS := Lib.hid hs
  have HL := Lib.hid hl
  have HC := Lib.hid (Chg.refl B w)
  obtain ⟨sa, sc, ga, gc, -, ⟨c1, -⟩, -, -, -, -, -⟩ := hs.ats
  clear ok hs hl
  go_enter Try.func93, Try.ntmps93
  rcases Int.lt_or_le una 0 with hu | hu
  · have HNO := Lib.hid (show s.ackB una ls = false by unfold Sc.ackB; rw [show decide (0 ≤ una ∧ una ≤ s.next) = false by rw [decide_eq_false_iff_not]; omega]; rfl)
    go_wp2_with fail
    go_ret2
    exact ⟨by unfold Sc.ackN Sc.ackE; rw [HNO.out]; rfl, by unfold Sc.acked; rw [HNO.out]; exact HS.out, HC.out⟩
  rcases Int.lt_or_le s.next una with hv | hv
  · have HNO := Lib.hid (show s.ackB una ls = false by unfold Sc.ackB; rw [show decide (0 ≤ una ∧ una ≤ s.next) = false by rw [decide_eq_false_iff_not]; omega]; rfl)
    go_wp2_with fail
    go_ret2
    exact ⟨by unfold Sc.ackN Sc.ackE; rw [HNO.out]; rfl, by unfold Sc.acked; rw [HNO.out]; exact HS.out, HC.out⟩
  have hlsm := HL.out.1.small
  go_wp2_with fail
  clear c1
  go_loopg [8] ls.length (fun g kv wr => ∃ (k : Nat), kv = .int .i64 (k : Int) ∧ g + k = ls.length ∧ RcAt B lb s wr ∧ Chg B w wr ∧ ∀ x ∈ ls.take k, s.inB x = true)
  case atStart => exact ⟨0, rfl, rfl, HS.out, HC.out, fun x hx => by simp at hx⟩
  case round =>
    clear HS HC
    obtain ⟨k, rfl, hg, hs, hc, hin⟩ := hrel
    have HS := Lib.hid hs
    have HC := Lib.hid hc
    have HIN := Lib.hid hin
    clear hs hc hin
    by_cases hk : k < ls.length
    · obtain ⟨b, off, rfl, hbk, hcs⟩ := (HL.out.chg HC.out).1.cells (by omega)
      obtain ⟨d0, d1⟩ := hcs k hk
      clear hcs
      have HTK := Lib.hid (List.take_succ_eq_append_getElem hk)
      have HMX := Lib.hid (List.getElem_mem hk)
      have hkr : (k : Int) < (ls.length : Int) := by omega
      generalize ls[k] = x at d0 d1 HTK HMX
      obtain ⟨x1, x2⟩ := x
      dsimp only at d0 d1
      go_wp2_with fail
      clear d0 d1
      refine (rcin_any B lb s (x1, x2) _ HS.out).mono ?_
      rintro e w2 ⟨rfl, hb⟩
      replace HS := Lib.hid (HS.out.below hb)
      replace HC := Lib.hid (HC.out.trans (Chg.of_below hb))
      clear hb
      cases hib : s.inB (x1, x2) with
      | false =>
        have HNO := Lib.hid (show s.ackB una ls = false by rw [← Bool.not_eq_true, Sc.ackB_iff]; rintro ⟨-, h⟩; have := h _ HMX.out; rw [hib] at this; cases this)
        clear hib
        go_wp2_with fail
        go_ret2
        exact ⟨by unfold Sc.ackN Sc.ackE; rw [HNO.out]; rfl, by unfold Sc.acked; rw [HNO.out]; exact HS.out, HC.out⟩
      | true =>
        go_wp2_with fail
        go_roundg (gk - 1)
        case measure => omega
        case rel => exact ⟨k + 1, by first | go_num | (have hsm := hlsm; have e : wrap64 ((k : Int) + 1) = ((k + 1 : Nat) : Int) := (by unfold wrap64; omega); rw [e]), by omega, HS.out, HC.out, fun y hy => by rw [HTK.out] at hy; rcases List.mem_append.1 hy with h | h; exact HIN.out y h; rw [List.mem_singleton.1 h]; exact hib⟩
    · obtain rfl : k = ls.length := by omega
      have HYES := Lib.hid (show s.ackB una ls = true by rw [Sc.ackB_iff]; refine ⟨⟨hu, hv⟩, ?_⟩; have h := HIN.out; rw [List.take_length] at h; exact h)
      clear HIN
      have HALL := Lib.hid (Sc.ackB_iff.1 HYES.out).2
      have HOKL := Lib.hid (show ∀ x ∈ ls, okS x from fun x hx => HOK.out.okl HALL.out x (List.mem_append_right _ hx))
      have HCN := Lib.hid (show countL s.sk = countF s.sk by unfold countL; rw [if_pos HOK.out.csk])
      have HW1 := Lib.hid (show IntKind.i64.wrap (s.una + countF s.sk) = s.una + countF s.sk from IntWalk.i64_in _ (by have h1 := HOK.out.u0; have h2 := HOK.out.un; have h3 := HOK.out.n40; have h4 := countF_nonneg HOK.out.csk; omega))
      obtain ⟨u, hu'⟩ : ∃ u, u = max s.una una := ⟨_, rfl⟩
      have HUU := Lib.hid hu'
      have HU0 := Lib.hid (show 0 ≤ u by rw [hu']; omega)
      clear hu'
      go_wp2_with fail
      obtain ⟨sa, sc, ga, gc, k0, k1, k2, k3, k4, ls3, -⟩ := HS.out.ats
      refine wp_region_held_drew (S := (fun W : World => W.cell? ⟨B, 0, none⟩ = some (.int .i64 s.una) ∧ W.cell? ⟨B, 2, none⟩ = some (.slice sa s.sk.length sc))) (by kernel_rfl) (⟨k0.1, k2.1⟩) (fun hHeld => ?_)
      replace ls3 := (show SpAt wr.drew wr.drew.heap.size sa s.sk from ls3.1.below (Below.refl _ wr).drew)
      replace HS := Lib.hid (HS.out.below (Below.refl _ wr).drew)
      replace HC := Lib.hid (HC.out.drew)
      generalize wr.drew = y1 at ls3 HS HC hHeld ⊢
      clear k0 k1 k2 k3 k4
      refine wpAnyH_take (i := 0) (v := ?_) (by simp only [List.getElem?_toArray, List.getElem?_cons_zero]; rfl) (by kernel_rfl) (by kernel_rfl) (by kernel_rfl) (by exact fun _ _ _ h => h) (Or.inl ⟨by rfl, ?_⟩) (by assumption) ?_
      rotate_left 1
      · intro w hSw; (obtain ⟨z0, z1⟩ := hSw); go_simp; (try with_reducible rfl)
      (try simp only [Act.put, List.setIfInBounds_toArray, List.set_cons_zero, List.set_cons_succ])
      refine wpAnyH_take (i := 1) (v := ?_) (by simp only [List.getElem?_toArray, List.getElem?_cons_succ, List.getElem?_cons_zero]; rfl) (by kernel_rfl) (by kernel_rfl) (by kernel_rfl) (by exact fun _ _ _ h => h) (Or.inl ⟨by rfl, ?_⟩) (by assumption) ?_
      rotate_left 1
      · intro w hSw; (obtain ⟨z0, z1⟩ := hSw); go_simp; (try with_reducible rfl)
      (try simp only [Act.put, List.setIfInBounds_toArray, List.set_cons_zero, List.set_cons_succ])
      refine wpAnyH_take (i := 2) (v := ?_) (by simp only [List.getElem?_toArray, List.getElem?_cons_succ, List.getElem?_cons_zero]; rfl) (by kernel_rfl) (by kernel_rfl) (by kernel_rfl) (by exact fun _ _ _ h => h) (Or.inl ⟨by rfl, ?_⟩) (by assumption) ?_
      rotate_left 1
      · intro w hSw; (obtain ⟨z0, z1⟩ := hSw); go_simp; (try with_reducible rfl)
      (try simp only [Act.put, List.setIfInBounds_toArray, List.set_cons_zero, List.set_cons_succ])
      refine wpAnyH_take (i := 3) (v := ?_) (by simp only [List.getElem?_toArray, List.getElem?_cons_succ, List.getElem?_cons_zero]; rfl) (by kernel_rfl) (by kernel_rfl) (by kernel_rfl) (by exact fun _ _ _ h => h) (Or.inl ⟨by rfl, ?_⟩) (by assumption) ?_
      rotate_left 1
      · intro w hSw; (obtain ⟨z0, z1⟩ := hSw); go_simp; (try with_reducible rfl)
      (try simp only [Act.put, List.setIfInBounds_toArray, List.set_cons_zero, List.set_cons_succ])
      refine wpAnyH_take (i := 4) (v := ?_) (by simp only [List.getElem?_toArray, List.getElem?_cons_succ, List.getElem?_cons_zero]; rfl) (by kernel_rfl) (by kernel_rfl) (by kernel_rfl) (by exact fun _ _ _ h => h) (Or.inl ⟨by rfl, ?_⟩) (by assumption) ?_
      rotate_left 1
      · intro w hSw; (obtain ⟨z0, z1⟩ := hSw); go_simp; (try with_reducible rfl)
      (try simp only [Act.put, List.setIfInBounds_toArray, List.set_cons_zero, List.set_cons_succ])
      refine wpAnyH_take (i := 5) (v := ?_) (by simp only [List.getElem?_toArray, List.getElem?_cons_succ, List.getElem?_cons_zero]; rfl) (by kernel_rfl) (by kernel_rfl) (by kernel_rfl) (by exact fun _ _ _ h => h) (Or.inl ⟨by rfl, ?_⟩) (by assumption) ?_
      rotate_left 1
      · intro w hSw; (obtain ⟨z0, z1⟩ := hSw); go_simp; (try with_reducible rfl)
      (try simp only [Act.put, List.setIfInBounds_toArray, List.set_cons_zero, List.set_cons_succ])
      refine wpAnyH_take (i := 6) (v := ?_) (by simp only [List.getElem?_toArray, List.getElem?_cons_succ, List.getElem?_cons_zero]; rfl) (by kernel_rfl) (by kernel_rfl) (by kernel_rfl) (by exact fun _ _ _ h => h) (Or.inl ⟨by rfl, ?_⟩) (by assumption) ?_
      rotate_left 1
      · intro w hSw; (obtain ⟨z0, z1⟩ := hSw); go_simp; (try with_reducible rfl)
      (try simp only [Act.put, List.setIfInBounds_toArray, List.set_cons_zero, List.set_cons_succ])
      refine wpAnyH_take (i := 7) (v := ?_) (by simp only [List.getElem?_toArray, List.getElem?_cons_succ, List.getElem?_cons_zero]; rfl) (by kernel_rfl) (by kernel_rfl) (by kernel_rfl) (by exact fun _ _ _ h => h) (Or.inl ⟨by rfl, ?_⟩) (by assumption) ?_
      rotate_left 1
      · intro w hSw; (obtain ⟨z0, z1⟩ := hSw); go_simp; (try with_reducible rfl)
      (try simp only [Act.put, List.setIfInBounds_toArray, List.set_cons_zero, List.set_cons_succ])
      have hHeld0 := hHeld
      refine wpAnyH_ready (rs := [8]) (by kernel_rfl) (by simp) ?_
      refine AllReadyH.cons (by simp only [List.getElem?_toArray, List.getElem?_cons_succ, List.getElem?_cons_zero]; rfl) (fun Kq hKq => ?_) AllReadyH.nil
      go_simp
      refine (rcount_any y1 y1.heap.size sa sc s.sk (ls3) (Nat.le_refl _)).mono ?_
      rintro e y2 ⟨rfl, hb⟩
      have hk3 := (show (fun W : World => W.cell? ⟨B, 0, none⟩ = some (.int .i64 s.una) ∧ W.cell? ⟨B, 2, none⟩ = some (.slice sa s.sk.length sc)) y2 from ⟨cell_bel2 hHeld0.1 (block_lt_of_cell hHeld0.1) hb, cell_bel2 hHeld0.2 (block_lt_of_cell hHeld0.2) hb⟩)
      replace HS := Lib.hid (HS.out.below hb)
      replace HC := Lib.hid (HC.out.trans (Chg.of_below hb))
      clear hb ls3 hHeld0
      go_simp
      refine hKq.out _ _ (hk3) (fun hHeld2 => ?_)
      clear hKq Kq hHeld
      (try simp only [Act.put, List.setIfInBounds_toArray, List.set_cons_zero, List.set_cons_succ])
      have hHeld := hHeld2
      clear hHeld2
      refine wpAnyH_take (i := 9) (v := ?_) (by simp only [List.getElem?_toArray, List.getElem?_cons_succ, List.getElem?_cons_zero]; rfl) (by kernel_rfl) (by kernel_rfl) (by kernel_rfl) (by exact fun _ _ _ h => h) (Or.inl ⟨by rfl, ?_⟩) (by assumption) ?_
      rotate_left 1
      · intro w hSw; (obtain ⟨z0, z1⟩ := hSw); go_simp; (try with_reducible rfl)
      (try simp only [Act.put, List.setIfInBounds_toArray, List.set_cons_zero, List.set_cons_succ])
      rw [HCN.out, HW1.out]
      refine wpAnyH_take (i := 10) (v := ?_) (by simp only [List.getElem?_toArray, List.getElem?_cons_succ, List.getElem?_cons_zero]; rfl) (by kernel_rfl) (by kernel_rfl) (by kernel_rfl) (by exact fun _ _ _ h => h) (Or.inl ⟨by rfl, ?_⟩) (by assumption) ?_
      rotate_left 1
      · intro w hSw; (obtain ⟨z0, z1⟩ := hSw); go_simp; (try with_reducible rfl)
      (try simp only [Act.put, List.setIfInBounds_toArray, List.set_cons_zero, List.set_cons_succ])
      refine wpAnyH_done (by kernel_rfl) ?_ _
      clear hHeld hk3
      obtain ⟨sa, sc, ga, gc, ⟨k0, g0⟩, -, -, -, -, -, -⟩ := HS.out.ats
      go_upto_region 10 with fail
      go_cut [] (fun wx => RcAt B lb { s with una := u, sk := (ls.take 0).foldl addL s.sk } wx ∧ Chg B w wx)
      case first =>
        rcases Int.lt_or_le s.una una with hm | hm
        · go_wp2_with fail
          go_meet
          case rel => exact ⟨by rw [HUU.out, show max s.una una = una by omega]; exact HS.out.set 0 (.int .i64 una) rfl rfl (fun _ _ _ _ => rfl), HC.out.setCell 0 (.int .i64 una)⟩
        · go_wp2_with fail
          go_meet
          case rel => exact ⟨by rw [HUU.out, show max s.una una = s.una by omega]; exact HS.out.set 0 (.int .i64 s.una) rfl rfl (fun _ _ _ _ => rfl), HC.out.setCell 0 (.int .i64 s.una)⟩
      case rest =>
        clear HS HC k0 g0
        obtain ⟨hs, hc⟩ := hcut
        have HS := Lib.hid hs
        have HC := Lib.hid hc
        clear hs hc
        go_wp2_with fail
        go_loopg [11] ls.length (fun g kv wr => ∃ (k : Nat), kv = .int .i64 (k : Int) ∧ g + k = ls.length ∧ RcAt B lb { s with una := u, sk := (ls.take k).foldl addL s.sk } wr ∧ Chg B w wr)
        case atStart => exact ⟨0, rfl, rfl, HS.out, HC.out⟩
        case round =>
          clear HS HC
          obtain ⟨k, rfl, hg, hs, hc⟩ := hrel
          have HS := Lib.hid hs
          have HC := Lib.hid hc
          clear hs hc
          by_cases hk : k < ls.length
          · obtain ⟨b, off, rfl, hbk, hcs⟩ := (HL.out.chg HC.out).1.cells (by omega)
            have hbB : b ≠ B := HL.out.2 (by omega) _ rfl
            obtain ⟨d0, d1⟩ := hcs k hk
            clear hcs
            have HTK := Lib.hid (show (ls.take (k + 1)).foldl addL s.sk = addL ((ls.take k).foldl addL s.sk) ls[k] by rw [List.take_succ_eq_append_getElem hk, List.foldl_append]; rfl)
            have hkr : (k : Int) < (ls.length : Int) := by omega
            have HCA := Lib.hid (addF_spec2 (L := ls.take (k + 1)) (fun x hx => HOKL.out x (List.mem_of_mem_take hx)) HOK.out.csk).1
            rw [HTK.out] at HCA
            generalize ls[k] = x at d0 d1 HTK HCA
            obtain ⟨x1, x2⟩ := x
            dsimp only at d0 d1
            generalize (ls.take k).foldl addL s.sk = SK at HS HTK HCA ⊢
            go_wp2_with fail
            have hK := (show (fun W : World => W.cell? ⟨b, off + k * 2, none⟩ = some (.int .i64 x1) ∧ W.cell? ⟨b, off + k * 2 + 1, none⟩ = some (.int .i64 x2)) wr from ⟨d0, d1⟩)
            clear d0 d1
            refine wp_region_held_drew (S := (fun W : World => W.cell? ⟨b, off + k * 2, none⟩ = some (.int .i64 x1) ∧ W.cell? ⟨b, off + k * 2 + 1, none⟩ = some (.int .i64 x2))) (by kernel_rfl) (hK) (fun hHeld => ?_)
            clear hK
            replace HS := Lib.hid (HS.out.below (Below.refl _ wr).drew)
            replace HC := Lib.hid (HC.out.drew)
            generalize wr.drew = y1 at HS HC hHeld ⊢
            refine wpAnyH_take (i := 0) (v := ?_) (by simp only [List.getElem?_toArray, List.getElem?_cons_zero]; rfl) (by kernel_rfl) (by kernel_rfl) (by kernel_rfl) (by exact fun _ _ _ h => h) (Or.inl ⟨by rfl, ?_⟩) (by assumption) ?_
            rotate_left 1
            · intro w hSw; (obtain ⟨z0, z1⟩ := hSw); go_simp; (try with_reducible rfl)
            (try simp only [Act.put, List.setIfInBounds_toArray, List.set_cons_zero, List.set_cons_succ])
            refine wpAnyH_take (i := 1) (v := ?_) (by simp only [List.getElem?_toArray, List.getElem?_cons_succ, List.getElem?_cons_zero]; rfl) (by kernel_rfl) (by kernel_rfl) (by kernel_rfl) (by exact fun _ _ _ h => h) (Or.inl ⟨by rfl, ?_⟩) (by assumption) ?_
            rotate_left 1
            · intro w hSw; (obtain ⟨z0, z1⟩ := hSw); go_simp; (try with_reducible rfl)
            (try simp only [Act.put, List.setIfInBounds_toArray, List.set_cons_zero, List.set_cons_succ])
            refine wpAnyH_take (i := 2) (v := ?_) (by simp only [List.getElem?_toArray, List.getElem?_cons_succ, List.getElem?_cons_zero]; rfl) (by kernel_rfl) (by kernel_rfl) (by kernel_rfl) (by exact fun _ _ _ h => h) (Or.inl ⟨by rfl, ?_⟩) (by assumption) ?_
            rotate_left 1
            · intro w hSw; (obtain ⟨z0, z1⟩ := hSw); go_simp; (try with_reducible rfl)
            (try simp only [Act.put, List.setIfInBounds_toArray, List.set_cons_zero, List.set_cons_succ])
            refine wpAnyH_take (i := 3) (v := ?_) (by simp only [List.getElem?_toArray, List.getElem?_cons_succ, List.getElem?_cons_zero]; rfl) (by kernel_rfl) (by kernel_rfl) (by kernel_rfl) (by exact fun _ _ _ h => h) (Or.inl ⟨by rfl, ?_⟩) (by assumption) ?_
            rotate_left 1
            · intro w hSw; (obtain ⟨z0, z1⟩ := hSw); go_simp; (try with_reducible rfl)
            (try simp only [Act.put, List.setIfInBounds_toArray, List.set_cons_zero, List.set_cons_succ])
            refine wpAnyH_take (i := 5) (v := ?_) (by simp only [List.getElem?_toArray, List.getElem?_cons_succ, List.getElem?_cons_zero]; rfl) (by kernel_rfl) (by kernel_rfl) (by kernel_rfl) (by exact fun _ _ _ h => h) (Or.inl ⟨by rfl, ?_⟩) (by assumption) ?_
            rotate_left 1
            · intro w hSw; (obtain ⟨z0, z1⟩ := hSw); go_simp; (try with_reducible rfl)
            (try simp only [Act.put, List.setIfInBounds_toArray, List.set_cons_zero, List.set_cons_succ])
            refine wpAnyH_take (i := 6) (v := ?_) (by simp only [List.getElem?_toArray, List.getElem?_cons_succ, List.getElem?_cons_zero]; rfl) (by kernel_rfl) (by kernel_rfl) (by kernel_rfl) (by exact fun _ _ _ h => h) (Or.inl ⟨by rfl, ?_⟩) (by assumption) ?_
            rotate_left 1
            · intro w hSw; (obtain ⟨z0, z1⟩ := hSw); go_simp; (try with_reducible rfl)
            (try simp only [Act.put, List.setIfInBounds_toArray, List.set_cons_zero, List.set_cons_succ])
            refine wpAnyH_take (i := 7) (v := ?_) (by simp only [List.getElem?_toArray, List.getElem?_cons_succ, List.getElem?_cons_zero]; rfl) (by kernel_rfl) (by kernel_rfl) (by kernel_rfl) (by exact fun _ _ _ h => h) (Or.inl ⟨by rfl, ?_⟩) (by assumption) ?_
            rotate_left 1
            · intro w hSw; (obtain ⟨z0, z1⟩ := hSw); go_simp; (try with_reducible rfl)
            (try simp only [Act.put, List.setIfInBounds_toArray, List.set_cons_zero, List.set_cons_succ])
            refine wpAnyH_take (i := 8) (v := ?_) (by simp only [List.getElem?_toArray, List.getElem?_cons_succ, List.getElem?_cons_zero]; rfl) (by kernel_rfl) (by kernel_rfl) (by kernel_rfl) (by exact fun _ _ _ h => h) (Or.inl ⟨by rfl, ?_⟩) (by assumption) ?_
            rotate_left 1
            · intro w hSw; (obtain ⟨z0, z1⟩ := hSw); go_simp; (try with_reducible rfl)
            (try simp only [Act.put, List.setIfInBounds_toArray, List.set_cons_zero, List.set_cons_succ])
            obtain ⟨sa1, sc1, ga1, gc1, -, -, ⟨k2, -⟩, ⟨k3, -⟩, -, ls3, ls4⟩ := HS.out.ats
            dsimp only at k2 k3 ls3 ls4
            refine wpAnyH_ready (rs := [4]) (by kernel_rfl) (by simp) ?_
            refine AllReadyH.cons (by simp only [List.getElem?_toArray, List.getElem?_cons_succ, List.getElem?_cons_zero]; rfl) (fun Kq hKq => ?_) AllReadyH.nil
            go_simp
            refine hKq.out _ _ (hHeld) (fun hHeld2 => ?_)
            clear hKq Kq hHeld
            (try simp only [Act.put, List.setIfInBounds_toArray, List.set_cons_zero, List.set_cons_succ])
            have hHeld := hHeld2
            clear hHeld2
            refine wpAnyH_ready (rs := [9]) (by kernel_rfl) (by simp) ?_
            refine AllReadyH.cons (by simp only [List.getElem?_toArray, List.getElem?_cons_succ, List.getElem?_cons_zero]; rfl) (fun Kq hKq => ?_) AllReadyH.nil
            go_simp
            refine (radd_any y1 y1.heap.size sa1 sc1 SK (x1, x2) (ls3.1.mono (Nat.le_refl _)) ls3.2.1 (Nat.le_refl _)).mono ?_
            rintro e y2 ⟨v, rfl, hO, hb⟩
            obtain ⟨va, vc, rfl, -⟩ := hO.val
            have hK2 := (show (fun W : World => W.cell? ⟨b, off + k * 2, none⟩ = some (.int .i64 x1) ∧ W.cell? ⟨b, off + k * 2 + 1, none⟩ = some (.int .i64 x2)) y2 from ⟨cell_bel2 hHeld.1 (block_lt_of_cell hHeld.1) hb, cell_bel2 hHeld.2 (block_lt_of_cell hHeld.2) hb⟩)
            have hls := (LstAt.own hO (canonF_len HCA.out) HS.out.2.1).1
            have HLS := Lib.hid hls
            replace HS := Lib.hid (HS.out.below hb)
            replace HC := Lib.hid (HC.out.trans (Chg.of_below hb))
            clear hO hb hls k2 k3 ls3 ls4
            go_simp
            refine hKq.out _ _ (hK2) (fun hHeld2 => ?_)
            clear hKq Kq hHeld
            (try simp only [Act.put, List.setIfInBounds_toArray, List.set_cons_zero, List.set_cons_succ])
            have hHeld := hHeld2
            clear hHeld2
            clear hK2
            obtain ⟨NL, hNL⟩ : ∃ NL, NL = addL SK (x1, x2) := ⟨_, rfl⟩
            rw [← hNL] at HLS HCA ⊢
            have HNL := Lib.hid hNL
            clear hNL
            obtain ⟨sa2, sc2, ga2, gc2, -, -, ⟨k2, g2⟩, ⟨k3, g3⟩, -, -, -⟩ := HS.out.ats
            refine wpAnyH_take (i := 10) (v := ?_) (by simp only [List.getElem?_toArray, List.getElem?_cons_succ, List.getElem?_cons_zero]; rfl) (by kernel_rfl) (by kernel_rfl) (by kernel_rfl) (by exact fun _ _ _ h => h) (Or.inl ⟨by rfl, ?_⟩) (by assumption) ?_
            rotate_left 1
            · intro w hSw; (obtain ⟨z0, z1⟩ := hSw); go_simp; (try with_reducible rfl)
            (try simp only [Act.put, List.setIfInBounds_toArray, List.set_cons_zero, List.set_cons_succ])
            refine wpAnyH_take (i := 11) (v := ?_) (by simp only [List.getElem?_toArray, List.getElem?_cons_succ, List.getElem?_cons_zero]; rfl) (by kernel_rfl) (by kernel_rfl) (by kernel_rfl) (by exact fun _ _ _ h => h) (Or.inl ⟨by rfl, ?_⟩) (by assumption) ?_
            rotate_left 1
            · intro w hSw; (obtain ⟨z0, z1⟩ := hSw); go_simp; (try with_reducible rfl)
            (try simp only [Act.put, List.setIfInBounds_toArray, List.set_cons_zero, List.set_cons_succ])
            refine wpAnyH_ready (rs := [12]) (by kernel_rfl) (by simp) ?_
            refine AllReadyH.cons (by simp only [List.getElem?_toArray, List.getElem?_cons_succ, List.getElem?_cons_zero]; rfl) (fun Kq hKq => ?_) AllReadyH.nil
            go_simp
            clear k2 k3 g2 g3
            have hch := (Chg.refl B y2).setCell 2 (.slice va NL.length vc)
            have hK3 := (show (fun W : World => W.cell? ⟨b, off + k * 2, none⟩ = some (.int .i64 x1) ∧ W.cell? ⟨b, off + k * 2 + 1, none⟩ = some (.int .i64 x2)) (y2.setCell ⟨B, 2, none⟩ (.slice va NL.length vc)) from ⟨(World.cell?_setCell_other _ _ _ _ (by intro e; have e2 := congrArg Addr.block e; dsimp only at e2; omega)).trans hHeld.1, (World.cell?_setCell_other _ _ _ _ (by intro e; have e2 := congrArg Addr.block e; dsimp only at e2; omega)).trans hHeld.2⟩)
            replace HS := Lib.hid (HS.out.setSk HLS.out)
            replace HC := Lib.hid (HC.out.trans hch)
            generalize y2.setCell ⟨B, 2, none⟩ (.slice va NL.length vc) = y3 at HS HC hK3 ⊢
            clear hch HLS
            refine hKq.out _ _ (hK3) (fun hHeld2 => ?_)
            clear hKq Kq hHeld
            (try simp only [Act.put, List.setIfInBounds_toArray, List.set_cons_zero, List.set_cons_succ])
            have hHeld := hHeld2
            clear hHeld2
            clear hK3
            refine wpAnyH_done (by kernel_rfl) ?_ _
            clear hHeld
            go_wp2_with fail
            go_roundg (gk - 1)
            case measure => omega
            case rel => exact ⟨k + 1, by first | go_num | (have hsm := hlsm; have e : wrap64 ((k : Int) + 1) = ((k + 1 : Nat) : Int) := (by unfold wrap64; omega); rw [e]), by omega, by rw [HTK.out, ← HNL.out]; exact HS.out, HC.out⟩
          · obtain rfl : k = ls.length := by omega
            rw [List.take_length] at HS
            have HCA := Lib.hid (addF_spec2 HOKL.out HOK.out.csk).1
            have HAB := Lib.hid (abv_add HU0.out HOKL.out HOK.out.csk)
            obtain ⟨SK, hSK⟩ : ∃ SK, SK = ls.foldl addL s.sk := ⟨_, rfl⟩
            rw [← hSK] at HS HCA HAB
            clear hSK
            replace HCA := Lib.hid (abvL_spec (n := u) (show canonF (-1) SK = true from HCA.out)).1
            go_wp2_with fail
            obtain ⟨sa0, sc0, ga0, gc0, ⟨k0, -⟩, -, -, -, -, -, -⟩ := HS.out.ats
            have hK := (show (fun W : World => W.cell? ⟨B, 0, none⟩ = some (.int .i64 u)) wr from k0)
            clear k0
            refine wp_region_held_drew (S := (fun W : World => W.cell? ⟨B, 0, none⟩ = some (.int .i64 u))) (by kernel_rfl) (hK) (fun hHeld => ?_)
            clear hK
            replace HS := Lib.hid (HS.out.below (Below.refl _ wr).drew)
            replace HC := Lib.hid (HC.out.drew)
            generalize wr.drew = y1 at HS HC hHeld ⊢
            refine wpAnyH_take (i := 0) (v := ?_) (by simp only [List.getElem?_toArray, List.getElem?_cons_zero]; rfl) (by kernel_rfl) (by kernel_rfl) (by kernel_rfl) (by exact fun _ _ _ h => h) (Or.inl ⟨by rfl, ?_⟩) (by assumption) ?_
            rotate_left 1
            · intro w hSw; (try dsimp only at hSw); go_simp; (try with_reducible rfl)
            (try simp only [Act.put, List.setIfInBounds_toArray, List.set_cons_zero, List.set_cons_succ])
            refine wpAnyH_take (i := 1) (v := ?_) (by simp only [List.getElem?_toArray, List.getElem?_cons_succ, List.getElem?_cons_zero]; rfl) (by kernel_rfl) (by kernel_rfl) (by kernel_rfl) (by exact fun _ _ _ h => h) (Or.inl ⟨by rfl, ?_⟩) (by assumption) ?_
            rotate_left 1
            · intro w hSw; (try dsimp only at hSw); go_simp; (try with_reducible rfl)
            (try simp only [Act.put, List.setIfInBounds_toArray, List.set_cons_zero, List.set_cons_succ])
            refine wpAnyH_take (i := 2) (v := ?_) (by simp only [List.getElem?_toArray, List.getElem?_cons_succ, List.getElem?_cons_zero]; rfl) (by kernel_rfl) (by kernel_rfl) (by kernel_rfl) (by exact fun _ _ _ h => h) (Or.inl ⟨by rfl, ?_⟩) (by assumption) ?_
            rotate_left 1
            · intro w hSw; (try dsimp only at hSw); go_simp; (try with_reducible rfl)
            (try simp only [Act.put, List.setIfInBounds_toArray, List.set_cons_zero, List.set_cons_succ])
            refine wpAnyH_take (i := 3) (v := ?_) (by simp only [List.getElem?_toArray, List.getElem?_cons_succ, List.getElem?_cons_zero]; rfl) (by kernel_rfl) (by kernel_rfl) (by kernel_rfl) (by exact fun _ _ _ h => h) (Or.inl ⟨by rfl, ?_⟩) (by assumption) ?_
            rotate_left 1
            · intro w hSw; (try dsimp only at hSw); go_simp; (try with_reducible rfl)
            (try simp only [Act.put, List.setIfInBounds_toArray, List.set_cons_zero, List.set_cons_succ])
            refine wpAnyH_take (i := 5) (v := ?_) (by simp only [List.getElem?_toArray, List.getElem?_cons_succ, List.getElem?_cons_zero]; rfl) (by kernel_rfl) (by kernel_rfl) (by kernel_rfl) (by exact fun _ _ _ h => h) (Or.inl ⟨by rfl, ?_⟩) (by assumption) ?_
            rotate_left 1
            · intro w hSw; (try dsimp only at hSw); go_simp; (try with_reducible rfl)
            (try simp only [Act.put, List.setIfInBounds_toArray, List.set_cons_zero, List.set_cons_succ])
            refine wpAnyH_take (i := 6) (v := ?_) (by simp only [List.getElem?_toArray, List.getElem?_cons_succ, List.getElem?_cons_zero]; rfl) (by kernel_rfl) (by kernel_rfl) (by kernel_rfl) (by exact fun _ _ _ h => h) (Or.inl ⟨by rfl, ?_⟩) (by assumption) ?_
            rotate_left 1
            · intro w hSw; (try dsimp only at hSw); go_simp; (try with_reducible rfl)
            (try simp only [Act.put, List.setIfInBounds_toArray, List.set_cons_zero, List.set_cons_succ])
            refine wpAnyH_take (i := 7) (v := ?_) (by simp only [List.getElem?_toArray, List.getElem?_cons_succ, List.getElem?_cons_zero]; rfl) (by kernel_rfl) (by kernel_rfl) (by kernel_rfl) (by exact fun _ _ _ h => h) (Or.inl ⟨by rfl, ?_⟩) (by assumption) ?_
            rotate_left 1
            · intro w hSw; (try dsimp only at hSw); go_simp; (try with_reducible rfl)
            (try simp only [Act.put, List.setIfInBounds_toArray, List.set_cons_zero, List.set_cons_succ])
            refine wpAnyH_take (i := 8) (v := ?_) (by simp only [List.getElem?_toArray, List.getElem?_cons_succ, List.getElem?_cons_zero]; rfl) (by kernel_rfl) (by kernel_rfl) (by kernel_rfl) (by exact fun _ _ _ h => h) (Or.inl ⟨by rfl, ?_⟩) (by assumption) ?_
            rotate_left 1
            · intro w hSw; (try dsimp only at hSw); go_simp; (try with_reducible rfl)
            (try simp only [Act.put, List.setIfInBounds_toArray, List.set_cons_zero, List.set_cons_succ])
            obtain ⟨sa1, sc1, ga1, gc1, -, -, ⟨k2, -⟩, ⟨k3, -⟩, -, ls3, ls4⟩ := HS.out.ats
            dsimp only at k2 k3 ls3 ls4
            refine wpAnyH_ready (rs := [4]) (by kernel_rfl) (by simp) ?_
            refine AllReadyH.cons (by simp only [List.getElem?_toArray, List.getElem?_cons_succ, List.getElem?_cons_zero]; rfl) (fun Kq hKq => ?_) AllReadyH.nil
            go_simp
            refine hKq.out _ _ (hHeld) (fun hHeld2 => ?_)
            clear hKq Kq hHeld
            (try simp only [Act.put, List.setIfInBounds_toArray, List.set_cons_zero, List.set_cons_succ])
            have hHeld := hHeld2
            clear hHeld2
            refine wpAnyH_ready (rs := [9]) (by kernel_rfl) (by simp) ?_
            refine AllReadyH.cons (by simp only [List.getElem?_toArray, List.getElem?_cons_succ, List.getElem?_cons_zero]; rfl) (fun Kq hKq => ?_) AllReadyH.nil
            go_simp
            refine (rabove_any y1 y1.heap.size sa1 sc1 SK u (ls3.1.mono (Nat.le_refl _)) (Nat.le_refl _)).mono ?_
            rintro e y2 ⟨v, rfl, hO, hb⟩
            obtain ⟨va, vc, rfl, -⟩ := hO.val
            have hK2 := (show (fun W : World => W.cell? ⟨B, 0, none⟩ = some (.int .i64 u)) y2 from cell_bel2 hHeld (block_lt_of_cell hHeld) hb)
            have hls := (LstAt.own hO (canonF_len HCA.out) HS.out.2.1).1
            have HLS := Lib.hid hls
            replace HS := Lib.hid (HS.out.below hb)
            replace HC := Lib.hid (HC.out.trans (Chg.of_below hb))
            clear hO hb hls k2 k3 ls3 ls4
            go_simp
            refine hKq.out _ _ (hK2) (fun hHeld2 => ?_)
            clear hKq Kq hHeld
            (try simp only [Act.put, List.setIfInBounds_toArray, List.set_cons_zero, List.set_cons_succ])
            have hHeld := hHeld2
            clear hHeld2
            clear hK2
            obtain ⟨NL, hNL⟩ : ∃ NL, NL = abvL u SK := ⟨_, rfl⟩
            rw [← hNL] at HLS HCA ⊢
            have HNL := Lib.hid hNL
            clear hNL
            obtain ⟨sa2, sc2, ga2, gc2, -, -, ⟨k2, g2⟩, ⟨k3, g3⟩, -, -, -⟩ := HS.out.ats
            refine wpAnyH_take (i := 10) (v := ?_) (by simp only [List.getElem?_toArray, List.getElem?_cons_succ, List.getElem?_cons_zero]; rfl) (by kernel_rfl) (by kernel_rfl) (by kernel_rfl) (by exact fun _ _ _ h => h) (Or.inl ⟨by rfl, ?_⟩) (by assumption) ?_
            rotate_left 1
            · intro w hSw; (try dsimp only at hSw); go_simp; (try with_reducible rfl)
            (try simp only [Act.put, List.setIfInBounds_toArray, List.set_cons_zero, List.set_cons_succ])
            refine wpAnyH_take (i := 11) (v := ?_) (by simp only [List.getElem?_toArray, List.getElem?_cons_succ, List.getElem?_cons_zero]; rfl) (by kernel_rfl) (by kernel_rfl) (by kernel_rfl) (by exact fun _ _ _ h => h) (Or.inl ⟨by rfl, ?_⟩) (by assumption) ?_
            rotate_left 1
            · intro w hSw; (try dsimp only at hSw); go_simp; (try with_reducible rfl)
            (try simp only [Act.put, List.setIfInBounds_toArray, List.set_cons_zero, List.set_cons_succ])
            refine wpAnyH_ready (rs := [12]) (by kernel_rfl) (by simp) ?_
            refine AllReadyH.cons (by simp only [List.getElem?_toArray, List.getElem?_cons_succ, List.getElem?_cons_zero]; rfl) (fun Kq hKq => ?_) AllReadyH.nil
            go_simp
            clear k2 k3 g2 g3
            have hch := (Chg.refl B y2).setCell 2 (.slice va NL.length vc)
            have hK3 := (show (fun W : World => W.cell? ⟨B, 0, none⟩ = some (.int .i64 u)) (y2.setCell ⟨B, 2, none⟩ (.slice va NL.length vc)) from (World.cell?_setCell_other _ _ _ _ (by intro e; cases e)).trans hHeld)
            replace HS := Lib.hid (HS.out.setSk HLS.out)
            replace HC := Lib.hid (HC.out.trans hch)
            generalize y2.setCell ⟨B, 2, none⟩ (.slice va NL.length vc) = y3 at HS HC hK3 ⊢
            clear hch HLS
            refine hKq.out _ _ (hK3) (fun hHeld2 => ?_)
            clear hKq Kq hHeld
            (try simp only [Act.put, List.setIfInBounds_toArray, List.set_cons_zero, List.set_cons_succ])
            have hHeld := hHeld2
            clear hHeld2
            clear hK3
            refine wpAnyH_done (by kernel_rfl) ?_ _
            clear hHeld
            rw [HAB.out] at HNL
            clear HAB
            have HCS := HCA
            have HSK := HNL
            clear HNL HCA
            generalize NL = K at HS HCS HSK
            have HCA := Lib.hid (abvL_spec (n := u) (show canonF (-1) s.ag = true from HOK.out.cag)).1
            have HAB := Lib.hid (abv_mrg HU0.out HOK.out.cag)
            go_wp2_with fail
            generalize y3 = wq at HS HC ⊢
            obtain ⟨sa0, sc0, ga0, gc0, ⟨k0, -⟩, -, -, -, -, -, -⟩ := HS.out.ats
            have hK := (show (fun W : World => W.cell? ⟨B, 0, none⟩ = some (.int .i64 u)) wq from k0)
            clear k0
            refine wp_region_held_drew (S := (fun W : World => W.cell? ⟨B, 0, none⟩ = some (.int .i64 u))) (by kernel_rfl) (hK) (fun hHeld => ?_)
            clear hK
            replace HS := Lib.hid (HS.out.below (Below.refl _ wq).drew)
            replace HC := Lib.hid (HC.out.drew)
            generalize wq.drew = y1 at HS HC hHeld ⊢
            refine wpAnyH_take (i := 0) (v := ?_) (by simp only [List.getElem?_toArray, List.getElem?_cons_zero]; rfl) (by kernel_rfl) (by kernel_rfl) (by kernel_rfl) (by exact fun _ _ _ h => h) (Or.inl ⟨by rfl, ?_⟩) (by assumption) ?_
            rotate_left 1
            · intro w hSw; (try dsimp only at hSw); go_simp; (try with_reducible rfl)
            (try simp only [Act.put, List.setIfInBounds_toArray, List.set_cons_zero, List.set_cons_succ])
            refine wpAnyH_take (i := 1) (v := ?_) (by simp only [List.getElem?_toArray, List.getElem?_cons_succ, List.getElem?_cons_zero]; rfl) (by kernel_rfl) (by kernel_rfl) (by kernel_rfl) (by exact fun _ _ _ h => h) (Or.inl ⟨by rfl, ?_⟩) (by assumption) ?_
            rotate_left 1
            · intro w hSw; (try dsimp only at hSw); go_simp; (try with_reducible rfl)
            (try simp only [Act.put, List.setIfInBounds_toArray, List.set_cons_zero, List.set_cons_succ])
            refine wpAnyH_take (i := 2) (v := ?_) (by simp only [List.getElem?_toArray, List.getElem?_cons_succ, List.getElem?_cons_zero]; rfl) (by kernel_rfl) (by kernel_rfl) (by kernel_rfl) (by exact fun _ _ _ h => h) (Or.inl ⟨by rfl, ?_⟩) (by assumption) ?_
            rotate_left 1
            · intro w hSw; (try dsimp only at hSw); go_simp; (try with_reducible rfl)
            (try simp only [Act.put, List.setIfInBounds_toArray, List.set_cons_zero, List.set_cons_succ])
            refine wpAnyH_take (i := 3) (v := ?_) (by simp only [List.getElem?_toArray, List.getElem?_cons_succ, List.getElem?_cons_zero]; rfl) (by kernel_rfl) (by kernel_rfl) (by kernel_rfl) (by exact fun _ _ _ h => h) (Or.inl ⟨by rfl, ?_⟩) (by assumption) ?_
            rotate_left 1
            · intro w hSw; (try dsimp only at hSw); go_simp; (try with_reducible rfl)
            (try simp only [Act.put, List.setIfInBounds_toArray, List.set_cons_zero, List.set_cons_succ])
            refine wpAnyH_take (i := 5) (v := ?_) (by simp only [List.getElem?_toArray, List.getElem?_cons_succ, List.getElem?_cons_zero]; rfl) (by kernel_rfl) (by kernel_rfl) (by kernel_rfl) (by exact fun _ _ _ h => h) (Or.inl ⟨by rfl, ?_⟩) (by assumption) ?_
            rotate_left 1
            · intro w hSw; (try dsimp only at hSw); go_simp; (try with_reducible rfl)
            (try simp only [Act.put, List.setIfInBounds_toArray, List.set_cons_zero, List.set_cons_succ])
            refine wpAnyH_take (i := 6) (v := ?_) (by simp only [List.getElem?_toArray, List.getElem?_cons_succ, List.getElem?_cons_zero]; rfl) (by kernel_rfl) (by kernel_rfl) (by kernel_rfl) (by exact fun _ _ _ h => h) (Or.inl ⟨by rfl, ?_⟩) (by assumption) ?_
            rotate_left 1
            · intro w hSw; (try dsimp only at hSw); go_simp; (try with_reducible rfl)
            (try simp only [Act.put, List.setIfInBounds_toArray, List.set_cons_zero, List.set_cons_succ])
            refine wpAnyH_take (i := 7) (v := ?_) (by simp only [List.getElem?_toArray, List.getElem?_cons_succ, List.getElem?_cons_zero]; rfl) (by kernel_rfl) (by kernel_rfl) (by kernel_rfl) (by exact fun _ _ _ h => h) (Or.inl ⟨by rfl, ?_⟩) (by assumption) ?_
            rotate_left 1
            · intro w hSw; (try dsimp only at hSw); go_simp; (try with_reducible rfl)
            (try simp only [Act.put, List.setIfInBounds_toArray, List.set_cons_zero, List.set_cons_succ])
            refine wpAnyH_take (i := 8) (v := ?_) (by simp only [List.getElem?_toArray, List.getElem?_cons_succ, List.getElem?_cons_zero]; rfl) (by kernel_rfl) (by kernel_rfl) (by kernel_rfl) (by exact fun _ _ _ h => h) (Or.inl ⟨by rfl, ?_⟩) (by assumption) ?_
            rotate_left 1
            · intro w hSw; (try dsimp only at hSw); go_simp; (try with_reducible rfl)
            (try simp only [Act.put, List.setIfInBounds_toArray, List.set_cons_zero, List.set_cons_succ])
            obtain ⟨sa1, sc1, ga1, gc1, -, -, ⟨k2, -⟩, ⟨k3, -⟩, -, ls3, ls4⟩ := HS.out.ats
            dsimp only at k2 k3 ls3 ls4
            refine wpAnyH_ready (rs := [4]) (by kernel_rfl) (by simp) ?_
            refine AllReadyH.cons (by simp only [List.getElem?_toArray, List.getElem?_cons_succ, List.getElem?_cons_zero]; rfl) (fun Kq hKq => ?_) AllReadyH.nil
            go_simp
            refine hKq.out _ _ (hHeld) (fun hHeld2 => ?_)
            clear hKq Kq hHeld
            (try simp only [Act.put, List.setIfInBounds_toArray, List.set_cons_zero, List.set_cons_succ])
            have hHeld := hHeld2
            clear hHeld2
            refine wpAnyH_ready (rs := [9]) (by kernel_rfl) (by simp) ?_
            refine AllReadyH.cons (by simp only [List.getElem?_toArray, List.getElem?_cons_succ, List.getElem?_cons_zero]; rfl) (fun Kq hKq => ?_) AllReadyH.nil
            go_simp
            refine (rabove_any y1 y1.heap.size ga1 gc1 s.ag u (ls4.1.mono (Nat.le_refl _)) (Nat.le_refl _)).mono ?_
            rintro e y2 ⟨v, rfl, hO, hb⟩
            obtain ⟨va, vc, rfl, -⟩ := hO.val
            have hK2 := (show (fun W : World => W.cell? ⟨B, 0, none⟩ = some (.int .i64 u)) y2 from cell_bel2 hHeld (block_lt_of_cell hHeld) hb)
            have hls := (LstAt.own hO (canonF_len HCA.out) HS.out.2.1).1
            have HLS := Lib.hid hls
            replace HS := Lib.hid (HS.out.below hb)
            replace HC := Lib.hid (HC.out.trans (Chg.of_below hb))
            clear hO hb hls k2 k3 ls3 ls4
            go_simp
            refine hKq.out _ _ (hK2) (fun hHeld2 => ?_)
            clear hKq Kq hHeld
            (try simp only [Act.put, List.setIfInBounds_toArray, List.set_cons_zero, List.set_cons_succ])
            have hHeld := hHeld2
            clear hHeld2
            clear hK2
            obtain ⟨NL, hNL⟩ : ∃ NL, NL = abvL u s.ag := ⟨_, rfl⟩
            rw [← hNL] at HLS HCA ⊢
            have HNL := Lib.hid hNL
            clear hNL
            obtain ⟨sa2, sc2, ga2, gc2, -, -, ⟨k2, g2⟩, ⟨k3, g3⟩, -, -, -⟩ := HS.out.ats
            refine wpAnyH_take (i := 10) (v := ?_) (by simp only [List.getElem?_toArray, List.getElem?_cons_succ, List.getElem?_cons_zero]; rfl) (by kernel_rfl) (by kernel_rfl) (by kernel_rfl) (by exact fun _ _ _ h => h) (Or.inl ⟨by rfl, ?_⟩) (by assumption) ?_
            rotate_left 1
            · intro w hSw; (try dsimp only at hSw); go_simp; (try with_reducible rfl)
            (try simp only [Act.put, List.setIfInBounds_toArray, List.set_cons_zero, List.set_cons_succ])
            refine wpAnyH_take (i := 11) (v := ?_) (by simp only [List.getElem?_toArray, List.getElem?_cons_succ, List.getElem?_cons_zero]; rfl) (by kernel_rfl) (by kernel_rfl) (by kernel_rfl) (by exact fun _ _ _ h => h) (Or.inl ⟨by rfl, ?_⟩) (by assumption) ?_
            rotate_left 1
            · intro w hSw; (try dsimp only at hSw); go_simp; (try with_reducible rfl)
            (try simp only [Act.put, List.setIfInBounds_toArray, List.set_cons_zero, List.set_cons_succ])
            refine wpAnyH_ready (rs := [12]) (by kernel_rfl) (by simp) ?_
            refine AllReadyH.cons (by simp only [List.getElem?_toArray, List.getElem?_cons_succ, List.getElem?_cons_zero]; rfl) (fun Kq hKq => ?_) AllReadyH.nil
            go_simp
            clear k2 k3 g2 g3
            have hch := (Chg.refl B y2).setCell 3 (.slice va NL.length vc)
            have hK3 := (show (fun W : World => W.cell? ⟨B, 0, none⟩ = some (.int .i64 u)) (y2.setCell ⟨B, 3, none⟩ (.slice va NL.length vc)) from (World.cell?_setCell_other _ _ _ _ (by intro e; cases e)).trans hHeld)
            replace HS := Lib.hid (HS.out.setAg HLS.out)
            replace HC := Lib.hid (HC.out.trans hch)
            generalize y2.setCell ⟨B, 3, none⟩ (.slice va NL.length vc) = y3 at HS HC hK3 ⊢
            clear hch HLS
            refine hKq.out _ _ (hK3) (fun hHeld2 => ?_)
            clear hKq Kq hHeld
            (try simp only [Act.put, List.setIfInBounds_toArray, List.set_cons_zero, List.set_cons_succ])
            have hHeld := hHeld2
            clear hHeld2
            clear hK3
            refine wpAnyH_done (by kernel_rfl) ?_ _
            clear hHeld
            rw [HAB.out] at HNL
            clear HAB
            have HCG := HCA
            have HAG := HNL
            clear HNL HCA
            generalize NL = G at HS HCG HAG
            go_wp2_with fail
            have hKl := canonF_len HCS.out
            go_loopg [12] K.length (fun g kv wr => ∃ (k : Nat), kv = .int .i64 (k : Int) ∧ g + k = K.length ∧ RcAt B lb { s with una := u, sk := K, ag := (K.take k).foldl remL G } wr ∧ Chg B w wr)
            case atStart => exact ⟨0, rfl, rfl, HS.out, HC.out⟩
            case round =>
              clear HS HC
              obtain ⟨k, rfl, hg, hs, hc⟩ := hrel
              have HS := Lib.hid hs
              have HC := Lib.hid hc
              clear hs hc
              by_cases hk : k < K.length
              · obtain ⟨sa, sc, ga, gc, -, -, ⟨k2, -⟩, -, -, ls3, -⟩ := HS.out.ats
                dsimp only at k2 ls3
                obtain ⟨b, off, hbe, hbk, hcs⟩ := ls3.1.cells (by omega)
                have hlb : lb ≤ b := ls3.2.2.1 (by omega) _ hbe
                subst hbe
                have hbB : b ≠ B := by have := HS.out.1; omega
                obtain ⟨d0, d1⟩ := hcs k hk
                clear hcs
                have HTK := Lib.hid (show (K.take (k + 1)).foldl remL G = remL ((K.take k).foldl remL G) K[k] by rw [List.take_succ_eq_append_getElem hk, List.foldl_append]; rfl)
                have hkr : (k : Int) < (K.length : Int) := by omega
                generalize K[k] = x at d0 d1 HTK
                obtain ⟨x1, x2⟩ := x
                dsimp only at d0 d1
                generalize (K.take k).foldl remL G = GG at HS HTK ⊢
                go_wp2_with fail
                have HCA := Lib.hid (show canonF (-1) (remL GG (x1, x2)) = true from remL_canon GG (x1, x2))
                have hK := (show (fun W : World => W.cell? ⟨B, 2, none⟩ = some (.slice (some ⟨b, off, none⟩) K.length sc) ∧ W.cell? ⟨b, off + k * 2, none⟩ = some (.int .i64 x1) ∧ W.cell? ⟨b, off + k * 2 + 1, none⟩ = some (.int .i64 x2)) wr from ⟨k2, d0, d1⟩)
                clear d0 d1 k2 ls3
                refine wp_region_held_drew (S := (fun W : World => W.cell? ⟨B, 2, none⟩ = some (.slice (some ⟨b, off, none⟩) K.length sc) ∧ W.cell? ⟨b, off + k * 2, none⟩ = some (.int .i64 x1) ∧ W.cell? ⟨b, off + k * 2 + 1, none⟩ = some (.int .i64 x2))) (by kernel_rfl) (hK) (fun hHeld => ?_)
                clear hK
                replace HS := Lib.hid (HS.out.below (Below.refl _ wr).drew)
                replace HC := Lib.hid (HC.out.drew)
                generalize wr.drew = y1 at HS HC hHeld ⊢
                refine wpAnyH_take (i := 0) (v := ?_) (by simp only [List.getElem?_toArray, List.getElem?_cons_zero]; rfl) (by kernel_rfl) (by kernel_rfl) (by kernel_rfl) (by exact fun _ _ _ h => h) (Or.inl ⟨by rfl, ?_⟩) (by assumption) ?_
                rotate_left 1
                · intro w hSw; (obtain ⟨z0, z1, z2⟩ := hSw); go_simp; (try with_reducible rfl)
                (try simp only [Act.put, List.setIfInBounds_toArray, List.set_cons_zero, List.set_cons_succ])
                refine wpAnyH_take (i := 1) (v := ?_) (by simp only [List.getElem?_toArray, List.getElem?_cons_succ, List.getElem?_cons_zero]; rfl) (by kernel_rfl) (by kernel_rfl) (by kernel_rfl) (by exact fun _ _ _ h => h) (Or.inl ⟨by rfl, ?_⟩) (by assumption) ?_
                rotate_left 1
                · intro w hSw; (obtain ⟨z0, z1, z2⟩ := hSw); go_simp; (try with_reducible rfl)
                (try simp only [Act.put, List.setIfInBounds_toArray, List.set_cons_zero, List.set_cons_succ])
                refine wpAnyH_take (i := 2) (v := ?_) (by simp only [List.getElem?_toArray, List.getElem?_cons_succ, List.getElem?_cons_zero]; rfl) (by kernel_rfl) (by kernel_rfl) (by kernel_rfl) (by exact fun _ _ _ h => h) (Or.inl ⟨by rfl, ?_⟩) (by assumption) ?_
                rotate_left 1
                · intro w hSw; (obtain ⟨z0, z1, z2⟩ := hSw); go_simp; (try with_reducible rfl)
                (try simp only [Act.put, List.setIfInBounds_toArray, List.set_cons_zero, List.set_cons_succ])
                refine wpAnyH_take (i := 3) (v := ?_) (by simp only [List.getElem?_toArray, List.getElem?_cons_succ, List.getElem?_cons_zero]; rfl) (by kernel_rfl) (by kernel_rfl) (by kernel_rfl) (by exact fun _ _ _ h => h) (Or.inl ⟨by rfl, ?_⟩) (by assumption) ?_
                rotate_left 1
                · intro w hSw; (obtain ⟨z0, z1, z2⟩ := hSw); go_simp; (try with_reducible rfl)
                (try simp only [Act.put, List.setIfInBounds_toArray, List.set_cons_zero, List.set_cons_succ])
                refine wpAnyH_take (i := 5) (v := ?_) (by simp only [List.getElem?_toArray, List.getElem?_cons_succ, List.getElem?_cons_zero]; rfl) (by kernel_rfl) (by kernel_rfl) (by kernel_rfl) (by exact fun _ _ _ h => h) (Or.inl ⟨by rfl, ?_⟩) (by assumption) ?_
                rotate_left 1
                · intro w hSw; (obtain ⟨z0, z1, z2⟩ := hSw); go_simp; (try with_reducible rfl)
                (try simp only [Act.put, List.setIfInBounds_toArray, List.set_cons_zero, List.set_cons_succ])
                refine wpAnyH_take (i := 6) (v := ?_) (by simp only [List.getElem?_toArray, List.getElem?_cons_succ, List.getElem?_cons_zero]; rfl) (by kernel_rfl) (by kernel_rfl) (by kernel_rfl) (by exact fun _ _ _ h => h) (Or.inl ⟨by rfl, ?_⟩) (by assumption) ?_
                rotate_left 1
                · intro w hSw; (obtain ⟨z0, z1, z2⟩ := hSw); go_simp; (try with_reducible rfl)
                (try simp only [Act.put, List.setIfInBounds_toArray, List.set_cons_zero, List.set_cons_succ])
                refine wpAnyH_take (i := 7) (v := ?_) (by simp only [List.getElem?_toArray, List.getElem?_cons_succ, List.getElem?_cons_zero]; rfl) (by kernel_rfl) (by kernel_rfl) (by kernel_rfl) (by exact fun _ _ _ h => h) (Or.inl ⟨by rfl, ?_⟩) (by assumption) ?_
                rotate_left 1
                · intro w hSw; (obtain ⟨z0, z1, z2⟩ := hSw); go_simp; (try with_reducible rfl)
                (try simp only [Act.put, List.setIfInBounds_toArray, List.set_cons_zero, List.set_cons_succ])
                refine wpAnyH_take (i := 8) (v := ?_) (by simp only [List.getElem?_toArray, List.getElem?_cons_succ, List.getElem?_cons_zero]; rfl) (by kernel_rfl) (by kernel_rfl) (by kernel_rfl) (by exact fun _ _ _ h => h) (Or.inl ⟨by rfl, ?_⟩) (by assumption) ?_
                rotate_left 1
                · intro w hSw; (obtain ⟨z0, z1, z2⟩ := hSw); go_simp; (try with_reducible rfl)
                (try simp only [Act.put, List.setIfInBounds_toArray, List.set_cons_zero, List.set_cons_succ])
                refine wpAnyH_take (i := 9) (v := ?_) (by simp only [List.getElem?_toArray, List.getElem?_cons_succ, List.getElem?_cons_zero]; rfl) (by kernel_rfl) (by kernel_rfl) (by kernel_rfl) (by exact fun _ _ _ h => h) (Or.inl ⟨by rfl, ?_⟩) (by assumption) ?_
                rotate_left 1
                · intro w hSw; (obtain ⟨z0, z1, z2⟩ := hSw); go_simp; (try with_reducible rfl)
                (try simp only [Act.put, List.setIfInBounds_toArray, List.set_cons_zero, List.set_cons_succ])
                refine wpAnyH_take (i := 10) (v := ?_) (by simp only [List.getElem?_toArray, List.getElem?_cons_succ, List.getElem?_cons_zero]; rfl) (by kernel_rfl) (by kernel_rfl) (by kernel_rfl) (by exact fun _ _ _ h => h) (Or.inl ⟨by rfl, ?_⟩) (by assumption) ?_
                rotate_left 1
                · intro w hSw; (obtain ⟨z0, z1, z2⟩ := hSw); go_simp; (try with_reducible rfl)
                (try simp only [Act.put, List.setIfInBounds_toArray, List.set_cons_zero, List.set_cons_succ])
                refine wpAnyH_take (i := 11) (v := ?_) (by simp only [List.getElem?_toArray, List.getElem?_cons_succ, List.getElem?_cons_zero]; rfl) (by kernel_rfl) (by kernel_rfl) (by kernel_rfl) (by exact fun _ _ _ h => h) (Or.inl ⟨by rfl, ?_⟩) (by assumption) ?_
                rotate_left 1
                · intro w hSw; (obtain ⟨z0, z1, z2⟩ := hSw); go_simp; (try with_reducible rfl)
                (try simp only [Act.put, List.setIfInBounds_toArray, List.set_cons_zero, List.set_cons_succ])
                obtain ⟨sa1, sc1, ga1, gc1, -, -, ⟨k2, -⟩, ⟨k3, -⟩, -, ls3, ls4⟩ := HS.out.ats
                dsimp only at k2 k3 ls3 ls4
                refine wpAnyH_ready (rs := [4]) (by kernel_rfl) (by simp) ?_
                refine AllReadyH.cons (by simp only [List.getElem?_toArray, List.getElem?_cons_succ, List.getElem?_cons_zero]; rfl) (fun Kq hKq => ?_) AllReadyH.nil
                go_simp
                refine hKq.out _ _ (hHeld) (fun hHeld2 => ?_)
                clear hKq Kq hHeld
                (try simp only [Act.put, List.setIfInBounds_toArray, List.set_cons_zero, List.set_cons_succ])
                have hHeld := hHeld2
                clear hHeld2
                refine wpAnyH_ready (rs := [12]) (by kernel_rfl) (by simp) ?_
                refine AllReadyH.cons (by simp only [List.getElem?_toArray, List.getElem?_cons_succ, List.getElem?_cons_zero]; rfl) (fun Kq hKq => ?_) AllReadyH.nil
                go_simp
                refine (rremove_any y1 y1.heap.size ga1 gc1 GG (x1, x2) (ls4.1.mono (Nat.le_refl _)) (Nat.le_refl _)).mono ?_
                rintro e y2 ⟨v, rfl, hO, hb⟩
                obtain ⟨va, vc, rfl, -⟩ := hO.val
                have hK2 := (show (fun W : World => W.cell? ⟨B, 2, none⟩ = some (.slice (some ⟨b, off, none⟩) K.length sc) ∧ W.cell? ⟨b, off + k * 2, none⟩ = some (.int .i64 x1) ∧ W.cell? ⟨b, off + k * 2 + 1, none⟩ = some (.int .i64 x2)) y2 from ⟨cell_bel2 hHeld.1 (block_lt_of_cell hHeld.1) hb, cell_bel2 hHeld.2.1 (block_lt_of_cell hHeld.2.1) hb, cell_bel2 hHeld.2.2 (block_lt_of_cell hHeld.2.2) hb⟩)
                have hls := (LstAt.own hO (canonF_len HCA.out) HS.out.2.1).1
                have HLS := Lib.hid hls
                replace HS := Lib.hid (HS.out.below hb)
                replace HC := Lib.hid (HC.out.trans (Chg.of_below hb))
                clear hO hb hls k2 k3 ls3 ls4
                go_simp
                refine hKq.out _ _ (hK2) (fun hHeld2 => ?_)
                clear hKq Kq hHeld
                (try simp only [Act.put, List.setIfInBounds_toArray, List.set_cons_zero, List.set_cons_succ])
                have hHeld := hHeld2
                clear hHeld2
                clear hK2
                obtain ⟨NL, hNL⟩ : ∃ NL, NL = remL GG (x1, x2) := ⟨_, rfl⟩
                rw [← hNL] at HLS HCA ⊢
                have HNL := Lib.hid hNL
                clear hNL
                obtain ⟨sa2, sc2, ga2, gc2, -, -, ⟨k2, g2⟩, ⟨k3, g3⟩, -, -, -⟩ := HS.out.ats
                refine wpAnyH_take (i := 13) (v := ?_) (by simp only [List.getElem?_toArray, List.getElem?_cons_succ, List.getElem?_cons_zero]; rfl) (by kernel_rfl) (by kernel_rfl) (by kernel_rfl) (by exact fun _ _ _ h => h) (Or.inl ⟨by rfl, ?_⟩) (by assumption) ?_
                rotate_left 1
                · intro w hSw; (obtain ⟨z0, z1, z2⟩ := hSw); go_simp; (try with_reducible rfl)
                (try simp only [Act.put, List.setIfInBounds_toArray, List.set_cons_zero, List.set_cons_succ])
                refine wpAnyH_take (i := 14) (v := ?_) (by simp only [List.getElem?_toArray, List.getElem?_cons_succ, List.getElem?_cons_zero]; rfl) (by kernel_rfl) (by kernel_rfl) (by kernel_rfl) (by exact fun _ _ _ h => h) (Or.inl ⟨by rfl, ?_⟩) (by assumption) ?_
                rotate_left 1
                · intro w hSw; (obtain ⟨z0, z1, z2⟩ := hSw); go_simp; (try with_reducible rfl)
                (try simp only [Act.put, List.setIfInBounds_toArray, List.set_cons_zero, List.set_cons_succ])
                refine wpAnyH_ready (rs := [15]) (by kernel_rfl) (by simp) ?_
                refine AllReadyH.cons (by simp only [List.getElem?_toArray, List.getElem?_cons_succ, List.getElem?_cons_zero]; rfl) (fun Kq hKq => ?_) AllReadyH.nil
                go_simp
                clear k2 k3 g2 g3
                have hch := (Chg.refl B y2).setCell 3 (.slice va NL.length vc)
                have hK3 := (show (fun W : World => W.cell? ⟨B, 2, none⟩ = some (.slice (some ⟨b, off, none⟩) K.length sc) ∧ W.cell? ⟨b, off + k * 2, none⟩ = some (.int .i64 x1) ∧ W.cell? ⟨b, off + k * 2 + 1, none⟩ = some (.int .i64 x2)) (y2.setCell ⟨B, 3, none⟩ (.slice va NL.length vc)) from ⟨(World.cell?_setCell_other _ _ _ _ (by intro e; cases e)).trans hHeld.1, (World.cell?_setCell_other _ _ _ _ (by intro e; have e2 := congrArg Addr.block e; dsimp only at e2; omega)).trans hHeld.2.1, (World.cell?_setCell_other _ _ _ _ (by intro e; have e2 := congrArg Addr.block e; dsimp only at e2; omega)).trans hHeld.2.2⟩)
                replace HS := Lib.hid (HS.out.setAg HLS.out)
                replace HC := Lib.hid (HC.out.trans hch)
                generalize y2.setCell ⟨B, 3, none⟩ (.slice va NL.length vc) = y3 at HS HC hK3 ⊢
                clear hch HLS
                refine hKq.out _ _ (hK3) (fun hHeld2 => ?_)
                clear hKq Kq hHeld
                (try simp only [Act.put, List.setIfInBounds_toArray, List.set_cons_zero, List.set_cons_succ])
                have hHeld := hHeld2
                clear hHeld2
                clear hK3
                refine wpAnyH_done (by kernel_rfl) ?_ _
                clear hHeld
                go_wp2_with fail
                go_roundg (gk - 1)
                case measure => omega
                case rel => exact ⟨k + 1, by first | go_num | (have hsm := hKl; have e : wrap64 ((k : Int) + 1) = ((k + 1 : Nat) : Int) := (by unfold wrap64; omega); rw [e]), by omega, by rw [HTK.out, ← HNL.out]; exact HS.out, HC.out⟩
              · obtain rfl : k = K.length := by omega
                rw [List.take_length] at HS
                obtain ⟨sa, sc, ga, gc, ⟨k0, -⟩, -, ⟨k2, -⟩, -, -, ls3, -⟩ := HS.out.ats
                dsimp only at k0 k2 ls3
                go_wp2_with fail
                have hK := (show (fun W : World => W.cell? ⟨B, 0, none⟩ = some (.int .i64 u) ∧ W.cell? ⟨B, 2, none⟩ = some (.slice sa K.length sc)) wr from ⟨k0, k2⟩)
                refine wp_region_held_drew (S := (fun W : World => W.cell? ⟨B, 0, none⟩ = some (.int .i64 u) ∧ W.cell? ⟨B, 2, none⟩ = some (.slice sa K.length sc))) (by kernel_rfl) (hK) (fun hHeld => ?_)
                replace ls3 := (show SpAt wr.drew wr.drew.heap.size sa K from ls3.1.below (Below.refl _ wr).drew)
                clear hK k0 k2
                replace HS := Lib.hid (HS.out.below (Below.refl _ wr).drew)
                replace HC := Lib.hid (HC.out.drew)
                generalize wr.drew = y1 at ls3 HS HC hHeld ⊢
                refine wpAnyH_take (i := 0) (v := ?_) (by simp only [List.getElem?_toArray, List.getElem?_cons_zero]; rfl) (by kernel_rfl) (by kernel_rfl) (by kernel_rfl) (by exact fun _ _ _ h => h) (Or.inl ⟨by rfl, ?_⟩) (by assumption) ?_
                rotate_left 1
                · intro w hSw; (obtain ⟨z0, z1⟩ := hSw); go_simp; (try with_reducible rfl)
                (try simp only [Act.put, List.setIfInBounds_toArray, List.set_cons_zero, List.set_cons_succ])
                refine wpAnyH_take (i := 1) (v := ?_) (by simp only [List.getElem?_toArray, List.getElem?_cons_succ, List.getElem?_cons_zero]; rfl) (by kernel_rfl) (by kernel_rfl) (by kernel_rfl) (by exact fun _ _ _ h => h) (Or.inl ⟨by rfl, ?_⟩) (by assumption) ?_
                rotate_left 1
                · intro w hSw; (obtain ⟨z0, z1⟩ := hSw); go_simp; (try with_reducible rfl)
                (try simp only [Act.put, List.setIfInBounds_toArray, List.set_cons_zero, List.set_cons_succ])
                refine wpAnyH_take (i := 2) (v := ?_) (by simp only [List.getElem?_toArray, List.getElem?_cons_succ, List.getElem?_cons_zero]; rfl) (by kernel_rfl) (by kernel_rfl) (by kernel_rfl) (by exact fun _ _ _ h => h) (Or.inl ⟨by rfl, ?_⟩) (by assumption) ?_
                rotate_left 1
                · intro w hSw; (obtain ⟨z0, z1⟩ := hSw); go_simp; (try with_reducible rfl)
                (try simp only [Act.put, List.setIfInBounds_toArray, List.set_cons_zero, List.set_cons_succ])
                refine wpAnyH_take (i := 3) (v := ?_) (by simp only [List.getElem?_toArray, List.getElem?_cons_succ, List.getElem?_cons_zero]; rfl) (by kernel_rfl) (by kernel_rfl) (by kernel_rfl) (by exact fun _ _ _ h => h) (Or.inl ⟨by rfl, ?_⟩) (by assumption) ?_
                rotate_left 1
                · intro w hSw; (obtain ⟨z0, z1⟩ := hSw); go_simp; (try with_reducible rfl)
                (try simp only [Act.put, List.setIfInBounds_toArray, List.set_cons_zero, List.set_cons_succ])
                refine wpAnyH_take (i := 4) (v := ?_) (by simp only [List.getElem?_toArray, List.getElem?_cons_succ, List.getElem?_cons_zero]; rfl) (by kernel_rfl) (by kernel_rfl) (by kernel_rfl) (by exact fun _ _ _ h => h) (Or.inl ⟨by rfl, ?_⟩) (by assumption) ?_
                rotate_left 1
                · intro w hSw; (obtain ⟨z0, z1⟩ := hSw); go_simp; (try with_reducible rfl)
                (try simp only [Act.put, List.setIfInBounds_toArray, List.set_cons_zero, List.set_cons_succ])
                refine wpAnyH_take (i := 5) (v := ?_) (by simp only [List.getElem?_toArray, List.getElem?_cons_succ, List.getElem?_cons_zero]; rfl) (by kernel_rfl) (by kernel_rfl) (by kernel_rfl) (by exact fun _ _ _ h => h) (Or.inl ⟨by rfl, ?_⟩) (by assumption) ?_
                rotate_left 1
                · intro w hSw; (obtain ⟨z0, z1⟩ := hSw); go_simp; (try with_reducible rfl)
                (try simp only [Act.put, List.setIfInBounds_toArray, List.set_cons_zero, List.set_cons_succ])
                refine wpAnyH_take (i := 6) (v := ?_) (by simp only [List.getElem?_toArray, List.getElem?_cons_succ, List.getElem?_cons_zero]; rfl) (by kernel_rfl) (by kernel_rfl) (by kernel_rfl) (by exact fun _ _ _ h => h) (Or.inl ⟨by rfl, ?_⟩) (by assumption) ?_
                rotate_left 1
                · intro w hSw; (obtain ⟨z0, z1⟩ := hSw); go_simp; (try with_reducible rfl)
                (try simp only [Act.put, List.setIfInBounds_toArray, List.set_cons_zero, List.set_cons_succ])
                refine wpAnyH_take (i := 7) (v := ?_) (by simp only [List.getElem?_toArray, List.getElem?_cons_succ, List.getElem?_cons_zero]; rfl) (by kernel_rfl) (by kernel_rfl) (by kernel_rfl) (by exact fun _ _ _ h => h) (Or.inl ⟨by rfl, ?_⟩) (by assumption) ?_
                rotate_left 1
                · intro w hSw; (obtain ⟨z0, z1⟩ := hSw); go_simp; (try with_reducible rfl)
                (try simp only [Act.put, List.setIfInBounds_toArray, List.set_cons_zero, List.set_cons_succ])
                refine wpAnyH_take (i := 10) (v := ?_) (by simp only [List.getElem?_toArray, List.getElem?_cons_succ, List.getElem?_cons_zero]; rfl) (by kernel_rfl) (by kernel_rfl) (by kernel_rfl) (by exact fun _ _ _ h => h) (Or.inl ⟨by rfl, ?_⟩) (by assumption) ?_
                rotate_left 1
                · intro w hSw; (obtain ⟨z0, z1⟩ := hSw); go_simp; (try with_reducible rfl)
                (try simp only [Act.put, List.setIfInBounds_toArray, List.set_cons_zero, List.set_cons_succ])
                have hHeld0 := hHeld
                refine wpAnyH_ready (rs := [8]) (by kernel_rfl) (by simp) ?_
                refine AllReadyH.cons (by simp only [List.getElem?_toArray, List.getElem?_cons_succ, List.getElem?_cons_zero]; rfl) (fun Kq hKq => ?_) AllReadyH.nil
                go_simp
                refine (rcount_any y1 y1.heap.size sa sc K (ls3) (Nat.le_refl _)).mono ?_
                rintro e y2 ⟨rfl, hb⟩
                have hk3 := (show (fun W : World => W.cell? ⟨B, 0, none⟩ = some (.int .i64 u) ∧ W.cell? ⟨B, 2, none⟩ = some (.slice sa K.length sc)) y2 from ⟨cell_bel2 hHeld0.1 (block_lt_of_cell hHeld0.1) hb, cell_bel2 hHeld0.2 (block_lt_of_cell hHeld0.2) hb⟩)
                replace HS := Lib.hid (HS.out.below hb)
                replace HC := Lib.hid (HC.out.trans (Chg.of_below hb))
                clear hb ls3 hHeld0
                go_simp
                refine hKq.out _ _ (hk3) (fun hHeld2 => ?_)
                clear hKq Kq hHeld
                (try simp only [Act.put, List.setIfInBounds_toArray, List.set_cons_zero, List.set_cons_succ])
                have hHeld := hHeld2
                clear hHeld2
                have HCK := Lib.hid (show countL K = countF K by unfold countL; rw [if_pos (show canonB K = true from HCS.out)])
                have HW2 := Lib.hid (show IntKind.i64.wrap (u + countF K) = u + countF K ∧ IntKind.i64.wrap (u + countF K - (s.una + countF s.sk)) = u + countF K - (s.una + countF s.sk) from by have h1 := HOK.out.u0; have h2 := HOK.out.un; have h3 := HOK.out.n40; have h4 := countF_nonneg HOK.out.csk; have h5 := countF_nonneg HCS.out; have h6 := HUU.out; exact ⟨IntWalk.i64_in _ (by omega), IntWalk.i64_in _ (by omega)⟩)
                refine wpAnyH_take (i := 9) (v := ?_) (by simp only [List.getElem?_toArray, List.getElem?_cons_succ, List.getElem?_cons_zero]; rfl) (by kernel_rfl) (by kernel_rfl) (by kernel_rfl) (by exact fun _ _ _ h => h) (Or.inl ⟨by rfl, ?_⟩) (by assumption) ?_
                rotate_left 1
                · intro w hSw; (obtain ⟨z0, z1⟩ := hSw); go_simp; (try with_reducible rfl)
                (try simp only [Act.put, List.setIfInBounds_toArray, List.set_cons_zero, List.set_cons_succ])
                rw [HCK.out, HW2.out.1]
                refine wpAnyH_take (i := 11) (v := ?_) (by simp only [List.getElem?_toArray, List.getElem?_cons_succ, List.getElem?_cons_zero]; rfl) (by kernel_rfl) (by kernel_rfl) (by kernel_rfl) (by exact fun _ _ _ h => h) (Or.inl ⟨by rfl, ?_⟩) (by assumption) ?_
                rotate_left 1
                · intro w hSw; (obtain ⟨z0, z1⟩ := hSw); go_simp; (try with_reducible rfl)
                (try simp only [Act.put, List.setIfInBounds_toArray, List.set_cons_zero, List.set_cons_succ])
                rw [HW2.out.2]
                refine wpAnyH_take (i := 12) (v := ?_) (by simp only [List.getElem?_toArray, List.getElem?_cons_succ, List.getElem?_cons_zero]; rfl) (by kernel_rfl) (by kernel_rfl) (by kernel_rfl) (by exact fun _ _ _ h => h) (Or.inl ⟨by rfl, ?_⟩) (by assumption) ?_
                rotate_left 1
                · intro w hSw; (obtain ⟨z0, z1⟩ := hSw); go_simp; (try with_reducible rfl)
                (try simp only [Act.put, List.setIfInBounds_toArray, List.set_cons_zero, List.set_cons_succ])
                refine wpAnyH_take (i := 13) (v := ?_) (by simp only [List.getElem?_toArray, List.getElem?_cons_succ, List.getElem?_cons_zero]; rfl) (by kernel_rfl) (by kernel_rfl) (by kernel_rfl) (by exact fun _ _ _ h => h) (Or.inl ⟨by rfl, ?_⟩) (by assumption) ?_
                rotate_left 1
                · intro w hSw; (obtain ⟨z0, z1⟩ := hSw); go_simp; (try with_reducible rfl)
                (try simp only [Act.put, List.setIfInBounds_toArray, List.set_cons_zero, List.set_cons_succ])
                refine wpAnyH_done (by kernel_rfl) ?_ _
                clear hHeld hk3
                go_wp2_with fail
                go_ret2
                have HF := Lib.hid (show s.ackS una ls = { s with una := u, sk := K, ag := K.foldl remL G } by unfold Sc.ackS; rw [← HUU.out, ← HSK.out, ← HAG.out, rem_wth HCG.out HCS.out])
                refine ⟨?_, ?_, HC.out⟩
                · unfold Sc.ackN Sc.ackE; rw [if_pos HYES.out, if_pos HYES.out, HF.out, ← HUU.out]; rfl
                · unfold Sc.acked; rw [if_pos HYES.out, HF.out]; exact HS.out
end Go.Proofs.Ytncjeleabpodaaa
