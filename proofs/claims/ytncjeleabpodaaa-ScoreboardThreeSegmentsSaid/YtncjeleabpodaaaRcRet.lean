/- The reference's Retransmitted. -/
import Derived.Test.YtncjeleabpodaaaRcAck
namespace Go.Proofs.Ytncjeleabpodaaa
open Go.RowKit Go.Shelf
set_option maxRecDepth 100000 in
set_option maxHeartbeats 4000000 in
theorem rcret_any (B lb : Nat) (s : Sc) (x1 x2 : Int) (w : World) (ok : s.Ok) (hs : RcAt B lb s w) :
    Calls Try.prog 95 #[.pointer (some ⟨B, 0, none⟩), .agg #[.int .i64 x1, .int .i64 x2]] w fun e w' => e = .returned (.int .i64 (s.retE (x1, x2))) ∧ RcAt B lb (s.ret (x1, x2)) w' ∧ Chg B w w' := by
  have hlt := hs.lt
  have hbx := rcBel w (.cells #[.int .i64 x1, .int .i64 x2] 51)
  have HOK := Lib.hid ok
  have HS := Lib.hid (hs.below hbx)
  have HC := Lib.hid (Chg.of_below (B := B) hbx)
  have e0 := At.new (W := w) (i := 0) (v := .int .i64 x1) (vs := #[.int .i64 x1, .int .i64 x2]) 51 rfl rfl
  have e1 := At.new (W := w) (i := 1) (v := .int .i64 x2) (vs := #[.int .i64 x1, .int .i64 x2]) 51 rfl rfl
  clear ok hs
  go_enter Try.func95, Try.ntmps95
  go_wp2_with fail
  obtain ⟨Xb, hXb⟩ : ∃ Xb, Xb = w.heap.size := ⟨_, rfl⟩
  rw [← hXb] at e0 e1 ⊢
  have hXB : Xb ≠ B := by omega
  have hXs := e0.lt
  clear hXb hbx hlt
  generalize w.alloc (.cells #[.int .i64 x1, .int .i64 x2] 51) = w1 at HS HC e0 e1 hXs ⊢
  refine (rcin_any B lb s (x1, x2) w1 HS.out).mono ?_
  rintro e w2 ⟨rfl, hb⟩
  replace HS := Lib.hid (HS.out.below hb)
  replace HC := Lib.hid (HC.out.trans (Chg.of_below hb))
  replace e0 := e0.below hb hXs
  replace e1 := e1.below hb hXs
  clear hb hXs
  obtain ⟨z0, f0⟩ := e0
  obtain ⟨z1, f1⟩ := e1
  cases hib : s.inB (x1, x2) with
  | false =>
    have HNO := Lib.hid hib
    clear hib
    go_wp2_with fail
    go_ret
    exact ⟨by unfold Sc.retE; rw [HNO.out]; rfl, by unfold Sc.ret; rw [HNO.out]; exact HS.out, HC.out⟩
  | true =>
    have HIN := Lib.hid hib
    clear hib
    go_wp2_with fail
    obtain ⟨sa, sc, ga, gc, -, -, ⟨k2, -⟩, -, -, ls3, -⟩ := HS.out.ats
    have hK := (show (fun W : World => W.cell? ⟨B, 2, none⟩ = some (.slice sa s.sk.length sc) ∧ W.cell? ⟨Xb, 0, none⟩ = some (.int .i64 x1) ∧ W.cell? ⟨Xb, 1, none⟩ = some (.int .i64 x2)) w2 from ⟨k2, z0, z1⟩)
    refine wp_region_held_drew (S := (fun W : World => W.cell? ⟨B, 2, none⟩ = some (.slice sa s.sk.length sc) ∧ W.cell? ⟨Xb, 0, none⟩ = some (.int .i64 x1) ∧ W.cell? ⟨Xb, 1, none⟩ = some (.int .i64 x2))) (by kernel_rfl) (hK) (fun hHeld => ?_)
    replace ls3 := (show SpAt w2.drew w2.drew.heap.size sa s.sk from ls3.1.below (Below.refl _ w2).drew)
    clear hK k2 z0 z1 f0 f1
    replace HS := Lib.hid (HS.out.below (Below.refl _ w2).drew)
    replace HC := Lib.hid (HC.out.drew)
    generalize w2.drew = y1 at ls3 HS HC hHeld ⊢
    refine wpAnyH_take (i := 0) (v := ?_) (by simp only [List.getElem?_toArray, List.getElem?_cons_zero]; rfl) (by kernel_rfl) (by kernel_rfl) (by kernel_rfl) (by exact fun _ _ _ h => h) (Or.inl ⟨by rfl, ?_⟩) (by assumption) ?_
    rotate_left 1
    · intro w hSw; (obtain ⟨z0, z1, z2⟩ := hSw); go_simp; (try with_reducible rfl)
    (try simp only [Act.put, List.setIfInBounds_toArray, List.set_cons_zero, List.set_cons_succ])
    refine wpAnyH_take (i := 1) (v := ?_) (by simp only [List.getElem?_toArray, List.getElem?_cons_succ, List.getElem?_cons_zero]; rfl) (by kernel_rfl) (by kernel_rfl) (by kernel_rfl) (by exact fun _ _ _ h => h) (Or.inl ⟨by rfl, ?_⟩) (by assumption) ?_
    rotate_left 1
    · intro w hSw; (obtain ⟨z0, z1, z2⟩ := hSw); go_simp; (try with_reducible rfl)
    (try simp only [Act.put, List.setIfInBounds_toArray, List.set_cons_zero, List.set_cons_succ])
    refine wpAnyH_take (i := 2) (v := ?_) (by simp only [List.getElem?_toArray, List.getElem?_cons_succ, List.getElem?_cons_zero]; rfl) (by kernel_rfl) (by kernel_rfl) (by kernel_rfl) (by exact fun _ _ _ h => h) (Or.inl ⟨by rfl, ?_⟩) (by assumption) ?_
    rotate_left 1
    · intro w hSw; (obtain ⟨z0, z1, z2⟩ := hSw); go_simp; (try with_reducible rfl)
    (try simp only [Act.put, List.setIfInBounds_toArray, List.set_cons_zero, List.set_cons_succ])
    refine wpAnyH_take (i := 3) (v := ?_) (by simp only [List.getElem?_toArray, List.getElem?_cons_succ, List.getElem?_cons_zero]; rfl) (by kernel_rfl) (by kernel_rfl) (by kernel_rfl) (by exact fun _ _ _ h => h) (Or.inl ⟨by rfl, ?_⟩) (by assumption) ?_
    rotate_left 1
    · intro w hSw; (obtain ⟨z0, z1, z2⟩ := hSw); go_simp; (try with_reducible rfl)
    (try simp only [Act.put, List.setIfInBounds_toArray, List.set_cons_zero, List.set_cons_succ])
    refine wpAnyH_take (i := 4) (v := ?_) (by simp only [List.getElem?_toArray, List.getElem?_cons_succ, List.getElem?_cons_zero]; rfl) (by kernel_rfl) (by kernel_rfl) (by kernel_rfl) (by exact fun _ _ _ h => h) (Or.inl ⟨by rfl, ?_⟩) (by assumption) ?_
    rotate_left 1
    · intro w hSw; (obtain ⟨z0, z1, z2⟩ := hSw); go_simp; (try with_reducible rfl)
    (try simp only [Act.put, List.setIfInBounds_toArray, List.set_cons_zero, List.set_cons_succ])
    have hHeld0 := hHeld
    refine wpAnyH_ready (rs := [5]) (by kernel_rfl) (by simp) ?_
    refine AllReadyH.cons (by simp only [List.getElem?_toArray, List.getElem?_cons_succ, List.getElem?_cons_zero]; rfl) (fun Kq hKq => ?_) AllReadyH.nil
    go_simp
    refine (rgaps_any y1 y1.heap.size sa sc s.sk (x1, x2) ls3 (Nat.le_refl _)).mono ?_
    rintro e y2 ⟨ga2, gc2, rfl, hgs, hb, hnw⟩
    have hk3 := (show (fun W : World => W.cell? ⟨B, 2, none⟩ = some (.slice sa s.sk.length sc) ∧ W.cell? ⟨Xb, 0, none⟩ = some (.int .i64 x1) ∧ W.cell? ⟨Xb, 1, none⟩ = some (.int .i64 x2)) y2 from ⟨cell_bel2 hHeld0.1 (block_lt_of_cell hHeld0.1) hb, cell_bel2 hHeld0.2.1 (block_lt_of_cell hHeld0.2.1) hb, cell_bel2 hHeld0.2.2 (block_lt_of_cell hHeld0.2.2) hb⟩)
    have hil : InL B ga2 (gapsL s.sk (x1, x2)) y2 := ⟨hgs, fun _ ad e => by have := hnw ad e; have := HS.out.lt; omega⟩
    have HL := Lib.hid hil
    replace HS := Lib.hid (HS.out.below hb)
    replace HC := Lib.hid (HC.out.trans (Chg.of_below hb))
    clear hb ls3 hHeld0 hgs hnw hil
    go_simp
    refine hKq.out _ _ (hk3) (fun hHeld2 => ?_)
    clear hKq Kq hHeld
    (try simp only [Act.put, List.setIfInBounds_toArray, List.set_cons_zero, List.set_cons_succ])
    have hHeld := hHeld2
    clear hHeld2
    refine wpAnyH_take (i := 6) (v := ?_) (by simp only [List.getElem?_toArray, List.getElem?_cons_succ, List.getElem?_cons_zero]; rfl) (by kernel_rfl) (by kernel_rfl) (by kernel_rfl) (by exact fun _ _ _ h => h) (Or.inl ⟨by rfl, ?_⟩) (by assumption) ?_
    rotate_left 1
    · intro w hSw; (obtain ⟨z0, z1, z2⟩ := hSw); go_simp; (try with_reducible rfl)
    (try simp only [Act.put, List.setIfInBounds_toArray, List.set_cons_zero, List.set_cons_succ])
    refine wpAnyH_done (by kernel_rfl) ?_ _
    clear hHeld hk3
    have HFG := Lib.hid (gapsL_wth HOK.out HIN.out)
    have HGC := Lib.hid (show canonF (-1) (gapsL s.sk (x1, x2)) = true by have h1 := Sc.inB_iff.1 HIN.out; have hn := HOK.out.n40; exact (gapsL_spec (takesB_iff.2 ⟨HOK.out.csk, h1.1, h1.2.1, by omega⟩)).1)
    have hlsm := canonF_len HGC.out
    generalize gapsL s.sk (x1, x2) = G at HL HFG HGC hlsm ⊢
    have HC0 := Lib.hid (Chg.refl B y2)
    go_wp2_with fail
    go_loopg [7] G.length (fun g kv wr => ∃ (k : Nat), kv = .int .i64 (k : Int) ∧ g + k = G.length ∧ RcAt B lb { s with ag := (G.take k).foldl addL s.ag } wr ∧ Chg B y2 wr)
    case atStart => exact ⟨0, rfl, rfl, HS.out, HC0.out⟩
    case round =>
      clear HS HC0
      obtain ⟨k, rfl, hg, hs, hc⟩ := hrel
      have HS := Lib.hid hs
      have HC2 := HC
      replace HC := Lib.hid hc
      clear hs hc
      by_cases hk : k < G.length
      · obtain ⟨b, off, rfl, hbk, hcs⟩ := (HL.out.chg HC.out).1.cells (by omega)
        have hbB : b ≠ B := HL.out.2 (by omega) _ rfl
        obtain ⟨d0, d1⟩ := hcs k hk
        clear hcs
        have HTK := Lib.hid (show (G.take (k + 1)).foldl addL s.ag = addL ((G.take k).foldl addL s.ag) G[k] by rw [List.take_succ_eq_append_getElem hk, List.foldl_append]; rfl)
        have hkr : (k : Int) < (G.length : Int) := by omega
        have HCA := Lib.hid (addF_spec2 (L := G.take (k + 1)) (fun x hx => canonF_ok HGC.out x (List.mem_of_mem_take hx)) HOK.out.cag).1
        rw [HTK.out] at HCA
        generalize G[k] = x at d0 d1 HTK HCA
        obtain ⟨p1, p2⟩ := x
        dsimp only at d0 d1
        generalize (G.take k).foldl addL s.ag = AG at HS HTK HCA ⊢
        go_wp2_with fail
        have hK := (show (fun W : World => W.cell? ⟨b, off + k * 2, none⟩ = some (.int .i64 p1) ∧ W.cell? ⟨b, off + k * 2 + 1, none⟩ = some (.int .i64 p2)) wr from ⟨d0, d1⟩)
        clear d0 d1
        refine wp_region_held_drew (S := (fun W : World => W.cell? ⟨b, off + k * 2, none⟩ = some (.int .i64 p1) ∧ W.cell? ⟨b, off + k * 2 + 1, none⟩ = some (.int .i64 p2))) (by kernel_rfl) (hK) (fun hHeld => ?_)
        clear hK
        replace HS := Lib.hid (HS.out.below (Below.refl _ wr).drew)
        replace HC := Lib.hid (HC.out.drew)
        generalize wr.drew = y1b at HS HC hHeld ⊢
        refine wpAnyH_take (i := 0) (v := ?_) (by simp only [List.getElem?_toArray, List.getElem?_cons_zero]; rfl) (by kernel_rfl) (by kernel_rfl) (by kernel_rfl) (by exact fun _ _ _ h => h) (Or.inl ⟨by rfl, ?_⟩) (by assumption) ?_
        rotate_left 1
        · intro w hSw; (obtain ⟨z0, z1⟩ := hSw); go_simp; (try with_reducible rfl)
        (try simp only [Act.put, List.setIfInBounds_toArray, List.set_cons_zero, List.set_cons_succ])
        refine wpAnyH_take (i := 1) (v := ?_) (by simp only [List.getElem?_toArray, List.getElem?_cons_succ, List.getElem?_cons_zero]; rfl) (by kernel_rfl) (by kernel_rfl) (by kernel_rfl) (by exact fun _ _ _ h => h) (Or.inl ⟨by rfl, ?_⟩) (by assumption) ?_
        rotate_left 1
        · intro w hSw; (obtain ⟨z0, z1⟩ := hSw); go_simp; (try with_reducible rfl)
        (try simp only [Act.put, List.setIfInBounds_toArray, List.set_cons_zero, List.set_cons_succ])
        refine wpAnyH_take (i := 2) (v := ?_) (by simp only [List.getElem?_toArray, List.getElem?_cons_succ, List.getElem?_cons_zero]; rfl) (by kernel_rfl) (by kernel_rfl) (by kernel_rfl) (by exact fun _ _ _ h => h) (Or.inl ⟨by rfl, ?_⟩) (by assumption) ?_
        rotate_left 1
        · intro w hSw; (obtain ⟨z0, z1⟩ := hSw); go_simp; (try with_reducible rfl)
        (try simp only [Act.put, List.setIfInBounds_toArray, List.set_cons_zero, List.set_cons_succ])
        refine wpAnyH_take (i := 3) (v := ?_) (by simp only [List.getElem?_toArray, List.getElem?_cons_succ, List.getElem?_cons_zero]; rfl) (by kernel_rfl) (by kernel_rfl) (by kernel_rfl) (by exact fun _ _ _ h => h) (Or.inl ⟨by rfl, ?_⟩) (by assumption) ?_
        rotate_left 1
        · intro w hSw; (obtain ⟨z0, z1⟩ := hSw); go_simp; (try with_reducible rfl)
        (try simp only [Act.put, List.setIfInBounds_toArray, List.set_cons_zero, List.set_cons_succ])
        refine wpAnyH_take (i := 5) (v := ?_) (by simp only [List.getElem?_toArray, List.getElem?_cons_succ, List.getElem?_cons_zero]; rfl) (by kernel_rfl) (by kernel_rfl) (by kernel_rfl) (by exact fun _ _ _ h => h) (Or.inl ⟨by rfl, ?_⟩) (by assumption) ?_
        rotate_left 1
        · intro w hSw; (obtain ⟨z0, z1⟩ := hSw); go_simp; (try with_reducible rfl)
        (try simp only [Act.put, List.setIfInBounds_toArray, List.set_cons_zero, List.set_cons_succ])
        refine wpAnyH_take (i := 6) (v := ?_) (by simp only [List.getElem?_toArray, List.getElem?_cons_succ, List.getElem?_cons_zero]; rfl) (by kernel_rfl) (by kernel_rfl) (by kernel_rfl) (by exact fun _ _ _ h => h) (Or.inl ⟨by rfl, ?_⟩) (by assumption) ?_
        rotate_left 1
        · intro w hSw; (obtain ⟨z0, z1⟩ := hSw); go_simp; (try with_reducible rfl)
        (try simp only [Act.put, List.setIfInBounds_toArray, List.set_cons_zero, List.set_cons_succ])
        refine wpAnyH_take (i := 7) (v := ?_) (by simp only [List.getElem?_toArray, List.getElem?_cons_succ, List.getElem?_cons_zero]; rfl) (by kernel_rfl) (by kernel_rfl) (by kernel_rfl) (by exact fun _ _ _ h => h) (Or.inl ⟨by rfl, ?_⟩) (by assumption) ?_
        rotate_left 1
        · intro w hSw; (obtain ⟨z0, z1⟩ := hSw); go_simp; (try with_reducible rfl)
        (try simp only [Act.put, List.setIfInBounds_toArray, List.set_cons_zero, List.set_cons_succ])
        refine wpAnyH_take (i := 8) (v := ?_) (by simp only [List.getElem?_toArray, List.getElem?_cons_succ, List.getElem?_cons_zero]; rfl) (by kernel_rfl) (by kernel_rfl) (by kernel_rfl) (by exact fun _ _ _ h => h) (Or.inl ⟨by rfl, ?_⟩) (by assumption) ?_
        rotate_left 1
        · intro w hSw; (obtain ⟨z0, z1⟩ := hSw); go_simp; (try with_reducible rfl)
        (try simp only [Act.put, List.setIfInBounds_toArray, List.set_cons_zero, List.set_cons_succ])
        obtain ⟨sa1, sc1, ga1, gc1, -, -, ⟨k2, -⟩, ⟨k3, -⟩, -, ls3, ls4⟩ := HS.out.ats
        dsimp only at k2 k3 ls3 ls4
        refine wpAnyH_ready (rs := [4]) (by kernel_rfl) (by simp) ?_
        refine AllReadyH.cons (by simp only [List.getElem?_toArray, List.getElem?_cons_succ, List.getElem?_cons_zero]; rfl) (fun Kq hKq => ?_) AllReadyH.nil
        go_simp
        refine hKq.out _ _ (hHeld) (fun hHeld2 => ?_)
        clear hKq Kq hHeld
        (try simp only [Act.put, List.setIfInBounds_toArray, List.set_cons_zero, List.set_cons_succ])
        have hHeld := hHeld2
        clear hHeld2
        refine wpAnyH_ready (rs := [9]) (by kernel_rfl) (by simp) ?_
        refine AllReadyH.cons (by simp only [List.getElem?_toArray, List.getElem?_cons_succ, List.getElem?_cons_zero]; rfl) (fun Kq hKq => ?_) AllReadyH.nil
        go_simp
        refine (radd_any y1b y1b.heap.size ga1 gc1 AG (p1, p2) (ls4.1.mono (Nat.le_refl _)) ls4.2.1 (Nat.le_refl _)).mono ?_
        rintro e y2b ⟨v, rfl, hO, hb⟩
        obtain ⟨va, vc, rfl, -⟩ := hO.val
        have hK2 := (show (fun W : World => W.cell? ⟨b, off + k * 2, none⟩ = some (.int .i64 p1) ∧ W.cell? ⟨b, off + k * 2 + 1, none⟩ = some (.int .i64 p2)) y2b from ⟨cell_bel2 hHeld.1 (block_lt_of_cell hHeld.1) hb, cell_bel2 hHeld.2 (block_lt_of_cell hHeld.2) hb⟩)
        have hls := (LstAt.own hO (canonF_len HCA.out) HS.out.2.1).1
        have HLS := Lib.hid hls
        replace HS := Lib.hid (HS.out.below hb)
        replace HC := Lib.hid (HC.out.trans (Chg.of_below hb))
        clear hO hb hls k2 k3 ls3 ls4
        go_simp
        refine hKq.out _ _ (hK2) (fun hHeld2 => ?_)
        clear hKq Kq hHeld
        (try simp only [Act.put, List.setIfInBounds_toArray, List.set_cons_zero, List.set_cons_succ])
        have hHeld := hHeld2
        clear hHeld2
        clear hK2
        obtain ⟨NL, hNL⟩ : ∃ NL, NL = addL AG (p1, p2) := ⟨_, rfl⟩
        rw [← hNL] at HLS HCA ⊢
        have HNL := Lib.hid hNL
        clear hNL
        obtain ⟨sa2, sc2, ga2, gc2, -, -, ⟨k2, g2⟩, ⟨k3, g3⟩, -, -, -⟩ := HS.out.ats
        refine wpAnyH_take (i := 10) (v := ?_) (by simp only [List.getElem?_toArray, List.getElem?_cons_succ, List.getElem?_cons_zero]; rfl) (by kernel_rfl) (by kernel_rfl) (by kernel_rfl) (by exact fun _ _ _ h => h) (Or.inl ⟨by rfl, ?_⟩) (by assumption) ?_
        rotate_left 1
        · intro w hSw; (obtain ⟨z0, z1⟩ := hSw); go_simp; (try with_reducible rfl)
        (try simp only [Act.put, List.setIfInBounds_toArray, List.set_cons_zero, List.set_cons_succ])
        refine wpAnyH_take (i := 11) (v := ?_) (by simp only [List.getElem?_toArray, List.getElem?_cons_succ, List.getElem?_cons_zero]; rfl) (by kernel_rfl) (by kernel_rfl) (by kernel_rfl) (by exact fun _ _ _ h => h) (Or.inl ⟨by rfl, ?_⟩) (by assumption) ?_
        rotate_left 1
        · intro w hSw; (obtain ⟨z0, z1⟩ := hSw); go_simp; (try with_reducible rfl)
        (try simp only [Act.put, List.setIfInBounds_toArray, List.set_cons_zero, List.set_cons_succ])
        refine wpAnyH_ready (rs := [12]) (by kernel_rfl) (by simp) ?_
        refine AllReadyH.cons (by simp only [List.getElem?_toArray, List.getElem?_cons_succ, List.getElem?_cons_zero]; rfl) (fun Kq hKq => ?_) AllReadyH.nil
        go_simp
        clear k2 k3 g2 g3
        have hch := (Chg.refl B y2b).setCell 3 (.slice va NL.length vc)
        have hK3 := (show (fun W : World => W.cell? ⟨b, off + k * 2, none⟩ = some (.int .i64 p1) ∧ W.cell? ⟨b, off + k * 2 + 1, none⟩ = some (.int .i64 p2)) (y2b.setCell ⟨B, 3, none⟩ (.slice va NL.length vc)) from ⟨(World.cell?_setCell_other _ _ _ _ (by intro e; have e2 := congrArg Addr.block e; dsimp only at e2; omega)).trans hHeld.1, (World.cell?_setCell_other _ _ _ _ (by intro e; have e2 := congrArg Addr.block e; dsimp only at e2; omega)).trans hHeld.2⟩)
        replace HS := Lib.hid (HS.out.setAg HLS.out)
        replace HC := Lib.hid (HC.out.trans hch)
        generalize y2b.setCell ⟨B, 3, none⟩ (.slice va NL.length vc) = y3b at HS HC hK3 ⊢
        clear hch HLS
        refine hKq.out _ _ (hK3) (fun hHeld2 => ?_)
        clear hKq Kq hHeld
        (try simp only [Act.put, List.setIfInBounds_toArray, List.set_cons_zero, List.set_cons_succ])
        have hHeld := hHeld2
        clear hHeld2
        clear hK3
        refine wpAnyH_done (by kernel_rfl) ?_ _
        clear hHeld
        go_wp2_with fail
        go_roundg (gk - 1)
        case measure => omega
        case rel => exact ⟨k + 1, by first | go_num | (have hsm := hlsm; have e : wrap64 ((k : Int) + 1) = ((k + 1 : Nat) : Int) := (by unfold wrap64; omega); rw [e]), by omega, by rw [HTK.out, ← HNL.out]; exact HS.out, HC.out⟩
      · obtain rfl : k = G.length := by omega
        rw [List.take_length] at HS
        have HCA := Lib.hid (addF_spec2 (canonF_ok HGC.out) HOK.out.cag).1
        have HRA := Lib.hid (HOK.out.ret_spec HIN.out).2.1
        rw [← HFG.out] at HRA
        obtain ⟨AG, hAG⟩ : ∃ AG, AG = G.foldl addL s.ag := ⟨_, rfl⟩
        rw [← hAG] at HS HCA HFG HRA
        clear hAG
        replace HCA := HRA
        obtain ⟨u, hu⟩ : ∃ u, u = s.una := ⟨_, rfl⟩
        have HU := Lib.hid hu
        rw [← hu] at HFG HRA HCA
        clear hu
        go_wp2_with fail
        obtain ⟨sa0, sc0, ga0, gc0, ⟨k0, -⟩, -, -, -, -, -, -⟩ := HS.out.ats
        have hK := (show (fun W : World => W.cell? ⟨B, 0, none⟩ = some (.int .i64 u)) wr from by rw [HU.out]; exact k0)
        clear k0
        refine wp_region_held_drew (S := (fun W : World => W.cell? ⟨B, 0, none⟩ = some (.int .i64 u))) (by kernel_rfl) (hK) (fun hHeld => ?_)
        clear hK
        replace HS := Lib.hid (HS.out.below (Below.refl _ wr).drew)
        replace HC := Lib.hid (HC.out.drew)
        generalize wr.drew = y1b at HS HC hHeld ⊢
        refine wpAnyH_take (i := 0) (v := ?_) (by simp only [List.getElem?_toArray, List.getElem?_cons_zero]; rfl) (by kernel_rfl) (by kernel_rfl) (by kernel_rfl) (by exact fun _ _ _ h => h) (Or.inl ⟨by rfl, ?_⟩) (by assumption) ?_
        rotate_left 1
        · intro w hSw; (try dsimp only at hSw); go_simp; (try with_reducible rfl)
        (try simp only [Act.put, List.setIfInBounds_toArray, List.set_cons_zero, List.set_cons_succ])
        refine wpAnyH_take (i := 1) (v := ?_) (by simp only [List.getElem?_toArray, List.getElem?_cons_succ, List.getElem?_cons_zero]; rfl) (by kernel_rfl) (by kernel_rfl) (by kernel_rfl) (by exact fun _ _ _ h => h) (Or.inl ⟨by rfl, ?_⟩) (by assumption) ?_
        rotate_left 1
        · intro w hSw; (try dsimp only at hSw); go_simp; (try with_reducible rfl)
        (try simp only [Act.put, List.setIfInBounds_toArray, List.set_cons_zero, List.set_cons_succ])
        refine wpAnyH_take (i := 2) (v := ?_) (by simp only [List.getElem?_toArray, List.getElem?_cons_succ, List.getElem?_cons_zero]; rfl) (by kernel_rfl) (by kernel_rfl) (by kernel_rfl) (by exact fun _ _ _ h => h) (Or.inl ⟨by rfl, ?_⟩) (by assumption) ?_
        rotate_left 1
        · intro w hSw; (try dsimp only at hSw); go_simp; (try with_reducible rfl)
        (try simp only [Act.put, List.setIfInBounds_toArray, List.set_cons_zero, List.set_cons_succ])
        refine wpAnyH_take (i := 3) (v := ?_) (by simp only [List.getElem?_toArray, List.getElem?_cons_succ, List.getElem?_cons_zero]; rfl) (by kernel_rfl) (by kernel_rfl) (by kernel_rfl) (by exact fun _ _ _ h => h) (Or.inl ⟨by rfl, ?_⟩) (by assumption) ?_
        rotate_left 1
        · intro w hSw; (try dsimp only at hSw); go_simp; (try with_reducible rfl)
        (try simp only [Act.put, List.setIfInBounds_toArray, List.set_cons_zero, List.set_cons_succ])
        refine wpAnyH_take (i := 5) (v := ?_) (by simp only [List.getElem?_toArray, List.getElem?_cons_succ, List.getElem?_cons_zero]; rfl) (by kernel_rfl) (by kernel_rfl) (by kernel_rfl) (by exact fun _ _ _ h => h) (Or.inl ⟨by rfl, ?_⟩) (by assumption) ?_
        rotate_left 1
        · intro w hSw; (try dsimp only at hSw); go_simp; (try with_reducible rfl)
        (try simp only [Act.put, List.setIfInBounds_toArray, List.set_cons_zero, List.set_cons_succ])
        refine wpAnyH_take (i := 6) (v := ?_) (by simp only [List.getElem?_toArray, List.getElem?_cons_succ, List.getElem?_cons_zero]; rfl) (by kernel_rfl) (by kernel_rfl) (by kernel_rfl) (by exact fun _ _ _ h => h) (Or.inl ⟨by rfl, ?_⟩) (by assumption) ?_
        rotate_left 1
        · intro w hSw; (try dsimp only at hSw); go_simp; (try with_reducible rfl)
        (try simp only [Act.put, List.setIfInBounds_toArray, List.set_cons_zero, List.set_cons_succ])
        refine wpAnyH_take (i := 7) (v := ?_) (by simp only [List.getElem?_toArray, List.getElem?_cons_succ, List.getElem?_cons_zero]; rfl) (by kernel_rfl) (by kernel_rfl) (by kernel_rfl) (by exact fun _ _ _ h => h) (Or.inl ⟨by rfl, ?_⟩) (by assumption) ?_
        rotate_left 1
        · intro w hSw; (try dsimp only at hSw); go_simp; (try with_reducible rfl)
        (try simp only [Act.put, List.setIfInBounds_toArray, List.set_cons_zero, List.set_cons_succ])
        refine wpAnyH_take (i := 8) (v := ?_) (by simp only [List.getElem?_toArray, List.getElem?_cons_succ, List.getElem?_cons_zero]; rfl) (by kernel_rfl) (by kernel_rfl) (by kernel_rfl) (by exact fun _ _ _ h => h) (Or.inl ⟨by rfl, ?_⟩) (by assumption) ?_
        rotate_left 1
        · intro w hSw; (try dsimp only at hSw); go_simp; (try with_reducible rfl)
        (try simp only [Act.put, List.setIfInBounds_toArray, List.set_cons_zero, List.set_cons_succ])
        obtain ⟨sa1, sc1, ga1, gc1, -, -, ⟨k2, -⟩, ⟨k3, -⟩, -, ls3, ls4⟩ := HS.out.ats
        dsimp only at k2 k3 ls3 ls4
        refine wpAnyH_ready (rs := [4]) (by kernel_rfl) (by simp) ?_
        refine AllReadyH.cons (by simp only [List.getElem?_toArray, List.getElem?_cons_succ, List.getElem?_cons_zero]; rfl) (fun Kq hKq => ?_) AllReadyH.nil
        go_simp
        refine hKq.out _ _ (hHeld) (fun hHeld2 => ?_)
        clear hKq Kq hHeld
        (try simp only [Act.put, List.setIfInBounds_toArray, List.set_cons_zero, List.set_cons_succ])
        have hHeld := hHeld2
        clear hHeld2
        refine wpAnyH_ready (rs := [9]) (by kernel_rfl) (by simp) ?_
        refine AllReadyH.cons (by simp only [List.getElem?_toArray, List.getElem?_cons_succ, List.getElem?_cons_zero]; rfl) (fun Kq hKq => ?_) AllReadyH.nil
        go_simp
        refine (rabove_any y1b y1b.heap.size ga1 gc1 AG u (ls4.1.mono (Nat.le_refl _)) (Nat.le_refl _)).mono ?_
        rintro e y2b ⟨v, rfl, hO, hb⟩
        obtain ⟨va, vc, rfl, -⟩ := hO.val
        have hK2 := (show (fun W : World => W.cell? ⟨B, 0, none⟩ = some (.int .i64 u)) y2b from cell_bel2 hHeld (block_lt_of_cell hHeld) hb)
        have hls := (LstAt.own hO (canonF_len HCA.out) HS.out.2.1).1
        have HLS := Lib.hid hls
        replace HS := Lib.hid (HS.out.below hb)
        replace HC := Lib.hid (HC.out.trans (Chg.of_below hb))
        clear hO hb hls k2 k3 ls3 ls4
        go_simp
        refine hKq.out _ _ (hK2) (fun hHeld2 => ?_)
        clear hKq Kq hHeld
        (try simp only [Act.put, List.setIfInBounds_toArray, List.set_cons_zero, List.set_cons_succ])
        have hHeld := hHeld2
        clear hHeld2
        clear hK2
        obtain ⟨NL, hNL⟩ : ∃ NL, NL = abvL u AG := ⟨_, rfl⟩
        rw [← hNL] at HLS HCA ⊢
        have HNL := Lib.hid hNL
        clear hNL
        obtain ⟨sa2, sc2, ga2, gc2, -, -, ⟨k2, g2⟩, ⟨k3, g3⟩, -, -, -⟩ := HS.out.ats
        refine wpAnyH_take (i := 10) (v := ?_) (by simp only [List.getElem?_toArray, List.getElem?_cons_succ, List.getElem?_cons_zero]; rfl) (by kernel_rfl) (by kernel_rfl) (by kernel_rfl) (by exact fun _ _ _ h => h) (Or.inl ⟨by rfl, ?_⟩) (by assumption) ?_
        rotate_left 1
        · intro w hSw; (try dsimp only at hSw); go_simp; (try with_reducible rfl)
        (try simp only [Act.put, List.setIfInBounds_toArray, List.set_cons_zero, List.set_cons_succ])
        refine wpAnyH_take (i := 11) (v := ?_) (by simp only [List.getElem?_toArray, List.getElem?_cons_succ, List.getElem?_cons_zero]; rfl) (by kernel_rfl) (by kernel_rfl) (by kernel_rfl) (by exact fun _ _ _ h => h) (Or.inl ⟨by rfl, ?_⟩) (by assumption) ?_
        rotate_left 1
        · intro w hSw; (try dsimp only at hSw); go_simp; (try with_reducible rfl)
        (try simp only [Act.put, List.setIfInBounds_toArray, List.set_cons_zero, List.set_cons_succ])
        refine wpAnyH_ready (rs := [12]) (by kernel_rfl) (by simp) ?_
        refine AllReadyH.cons (by simp only [List.getElem?_toArray, List.getElem?_cons_succ, List.getElem?_cons_zero]; rfl) (fun Kq hKq => ?_) AllReadyH.nil
        go_simp
        clear k2 k3 g2 g3
        have hch := (Chg.refl B y2b).setCell 3 (.slice va NL.length vc)
        have hK3 := (show (fun W : World => W.cell? ⟨B, 0, none⟩ = some (.int .i64 u)) (y2b.setCell ⟨B, 3, none⟩ (.slice va NL.length vc)) from (World.cell?_setCell_other _ _ _ _ (by intro e; cases e)).trans hHeld)
        replace HS := Lib.hid (HS.out.setAg HLS.out)
        replace HC := Lib.hid (HC.out.trans hch)
        generalize y2b.setCell ⟨B, 3, none⟩ (.slice va NL.length vc) = y3b at HS HC hK3 ⊢
        clear hch HLS
        refine hKq.out _ _ (hK3) (fun hHeld2 => ?_)
        clear hKq Kq hHeld
        (try simp only [Act.put, List.setIfInBounds_toArray, List.set_cons_zero, List.set_cons_succ])
        have hHeld := hHeld2
        clear hHeld2
        clear hK3
        refine wpAnyH_done (by kernel_rfl) ?_ _
        clear hHeld
        go_wp2_with fail
        go_ret
        refine ⟨by unfold Sc.retE; rw [HIN.out]; rfl, ?_, HC2.out.trans HC.out⟩
        have h := HS.out
        rw [HNL.out, HFG.out] at h
        unfold Sc.ret
        rw [if_pos HIN.out]
        exact h
end Go.Proofs.Ytncjeleabpodaaa
