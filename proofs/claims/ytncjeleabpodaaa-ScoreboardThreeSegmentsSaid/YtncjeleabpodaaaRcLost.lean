/- The reference's All and Lost. -/
import Derived.Test.YtncjeleabpodaaaRcAbv
import Derived.Deep.LoopGhost
import Derived.Deep.CutBlock
import Derived.Deep.DeepCutAuto
namespace Go.Proofs.Ytncjeleabpodaaa
open Go.RowKit Go.Shelf
set_option maxRecDepth 100000 in
set_option maxHeartbeats 4000000 in
theorem rcall_any (B lb : Nat) (s : Sc) (m : Int) (w : World) (ok : s.Ok) (hs : RcAt B lb s w) (hm1 : 1 ≤ m) (hm2 : m ≤ 1000) :
    Calls Try.prog 111 #[.pointer (some ⟨B, 0, none⟩), .int .i64 m] w fun e w' => ∃ v, e = .returned v ∧ OwnSp w' w.heap.size v (s.all m) ∧ Below w.heap.size w w' := by
  have HOK := Lib.hid ok
  have HS := Lib.hid hs
  have hN : w.heap.size ≤ w.heap.size := Nat.le_refl _
  obtain ⟨sa, sc, ga, gc, ⟨c0, -⟩, ⟨c1, -⟩, -, -, -, -, -⟩ := hs.ats
  clear ok hs
  have hd0 : decide (m < 1) = false := by rw [decide_eq_false_iff_not]; omega
  go_enter Try.func111, Try.ntmps111
  by_cases hun : s.una = s.next
  · have hd1 : (s.una == s.next) = true := by simp [hun]
    have HNIL := Lib.hid (show s.all m = [] by unfold Sc.all Sc.gaps gapsL; rw [if_neg (by rw [takesB_iff]; rintro ⟨-, -, h, -⟩; dsimp only at h; omega)]; rfl)
    clear hun
    go_wp2_with fail
    go_quiet (fail)
    go_wp2_with fail
    go_ret
    exact ⟨_, rfl, by rw [HNIL.out]; exact OwnSp.nil _ _, ⟨rfl, rfl, rfl, Nat.le_refl _, fun _ _ => rfl⟩⟩
  · have hd1 : decide (s.una = s.next) = false := decide_eq_false hun
    have hd2 : (s.una == s.next) = false := by simp [hun]
    go_wp2_with fail
    go_quiet (fail)
    replace HS := Lib.hid (HS.out.below (show Below w.heap.size w (w.drewN nq) from ⟨rfl, rfl, rfl, Nat.le_refl _, fun _ _ => rfl⟩))
    have HB := Lib.hid (show Below w.heap.size w (w.drewN nq) from ⟨rfl, rfl, rfl, Nat.le_refl _, fun _ _ => rfl⟩)
    generalize w.drewN nq = y0 at HS HB ⊢
    clear hd0 hd1 hd2 c0 c1
    have HGA := Lib.hid (gaps_len s)
    go_wp2_with fail
    obtain ⟨sa, sc, ga, gc, ⟨k0, -⟩, ⟨k1, -⟩, ⟨k2, -⟩, -, -, ls3, -⟩ := HS.out.ats
    have hK := (show (fun W : World => W.cell? ⟨B, 0, none⟩ = some (.int .i64 s.una) ∧ W.cell? ⟨B, 1, none⟩ = some (.int .i64 s.next) ∧ W.cell? ⟨B, 2, none⟩ = some (.slice sa s.sk.length sc)) y0 from ⟨k0, k1, k2⟩)
    refine wp_region_held_drew (S := (fun W : World => W.cell? ⟨B, 0, none⟩ = some (.int .i64 s.una) ∧ W.cell? ⟨B, 1, none⟩ = some (.int .i64 s.next) ∧ W.cell? ⟨B, 2, none⟩ = some (.slice sa s.sk.length sc))) (by kernel_rfl) (hK) (fun hHeld => ?_)
    replace ls3 := (show SpAt y0.drew y0.drew.heap.size sa s.sk from ls3.1.below (Below.refl _ y0).drew)
    clear hK k0 k1 k2
    replace HS := Lib.hid (HS.out.below (Below.refl _ y0).drew)
    replace HB := Lib.hid (HB.out.drew)
    generalize y0.drew = y1 at ls3 HS HB hHeld ⊢
    refine wpAnyH_take (i := 0) (v := ?_) (by simp only [List.getElem?_toArray, List.getElem?_cons_zero]; rfl) (by kernel_rfl) (by kernel_rfl) (by kernel_rfl) (by exact fun _ _ _ h => h) (Or.inl ⟨by rfl, ?_⟩) (by assumption) ?_
    rotate_left 1
    · intro w hSw; (obtain ⟨z0, z1, z2⟩ := hSw); go_simp; (try with_reducible rfl)
    (try simp only [Act.put, List.setIfInBounds_toArray, List.set_cons_zero, List.set_cons_succ])
    refine wpAnyH_take (i := 1) (v := ?_) (by simp only [List.getElem?_toArray, List.getElem?_cons_succ, List.getElem?_cons_zero]; rfl) (by kernel_rfl) (by kernel_rfl) (by kernel_rfl) (by exact fun _ _ _ h => h) (Or.inl ⟨by rfl, ?_⟩) (by assumption) ?_
    rotate_left 1
    · intro w hSw; (obtain ⟨z0, z1, z2⟩ := hSw); go_simp; (try with_reducible rfl)
    (try simp only [Act.put, List.setIfInBounds_toArray, List.set_cons_zero, List.set_cons_succ])
    refine wpAnyH_take (i := 2) (v := ?_) (by simp only [List.getElem?_toArray, List.getElem?_cons_succ, List.getElem?_cons_zero]; rfl) (by kernel_rfl) (by kernel_rfl) (by kernel_rfl) (by exact fun _ _ _ h => h) (Or.inl ⟨by rfl, ?_⟩) (by assumption) ?_
    rotate_left 1
    · intro w hSw; (obtain ⟨z0, z1, z2⟩ := hSw); go_simp; (try with_reducible rfl)
    (try simp only [Act.put, List.setIfInBounds_toArray, List.set_cons_zero, List.set_cons_succ])
    refine wpAnyH_take (i := 3) (v := ?_) (by simp only [List.getElem?_toArray, List.getElem?_cons_succ, List.getElem?_cons_zero]; rfl) (by kernel_rfl) (by kernel_rfl) (by kernel_rfl) (by exact fun _ _ _ h => h) (Or.inl ⟨by rfl, ?_⟩) (by assumption) ?_
    rotate_left 1
    · intro w hSw; (obtain ⟨z0, z1, z2⟩ := hSw); go_simp; (try with_reducible rfl)
    (try simp only [Act.put, List.setIfInBounds_toArray, List.set_cons_zero, List.set_cons_succ])
    refine wpAnyH_take (i := 4) (v := ?_) (by simp only [List.getElem?_toArray, List.getElem?_cons_succ, List.getElem?_cons_zero]; rfl) (by kernel_rfl) (by kernel_rfl) (by kernel_rfl) (by exact fun _ _ _ h => h) (Or.inl ⟨by rfl, ?_⟩) (by assumption) ?_
    rotate_left 1
    · intro w hSw; (obtain ⟨z0, z1, z2⟩ := hSw); go_simp; (try with_reducible rfl)
    (try simp only [Act.put, List.setIfInBounds_toArray, List.set_cons_zero, List.set_cons_succ])
    refine wpAnyH_take (i := 5) (v := ?_) (by simp only [List.getElem?_toArray, List.getElem?_cons_succ, List.getElem?_cons_zero]; rfl) (by kernel_rfl) (by kernel_rfl) (by kernel_rfl) (by exact fun _ _ _ h => h) (Or.inl ⟨by rfl, ?_⟩) (by assumption) ?_
    rotate_left 1
    · intro w hSw; (obtain ⟨z0, z1, z2⟩ := hSw); go_simp; (try with_reducible rfl)
    (try simp only [Act.put, List.setIfInBounds_toArray, List.set_cons_zero, List.set_cons_succ])
    refine wpAnyH_take (i := 6) (v := ?_) (by simp only [List.getElem?_toArray, List.getElem?_cons_succ, List.getElem?_cons_zero]; rfl) (by kernel_rfl) (by kernel_rfl) (by kernel_rfl) (by exact fun _ _ _ h => h) (Or.inl ⟨by rfl, ?_⟩) (by assumption) ?_
    rotate_left 1
    · intro w hSw; (obtain ⟨z0, z1, z2⟩ := hSw); go_simp; (try with_reducible rfl)
    (try simp only [Act.put, List.setIfInBounds_toArray, List.set_cons_zero, List.set_cons_succ])
    refine wpAnyH_take (i := 7) (v := ?_) (by simp only [List.getElem?_toArray, List.getElem?_cons_succ, List.getElem?_cons_zero]; rfl) (by kernel_rfl) (by kernel_rfl) (by kernel_rfl) (by exact fun _ _ _ h => h) (Or.inl ⟨by rfl, ?_⟩) (by assumption) ?_
    rotate_left 1
    · intro w hSw; (obtain ⟨z0, z1, z2⟩ := hSw); go_simp; (try with_reducible rfl)
    (try simp only [Act.put, List.setIfInBounds_toArray, List.set_cons_zero, List.set_cons_succ])
    refine wpAnyH_take (i := 8) (v := ?_) (by simp only [List.getElem?_toArray, List.getElem?_cons_succ, List.getElem?_cons_zero]; rfl) (by kernel_rfl) (by kernel_rfl) (by kernel_rfl) (by exact fun _ _ _ h => h) (Or.inl ⟨by rfl, ?_⟩) (by assumption) ?_
    rotate_left 1
    · intro w hSw; (obtain ⟨z0, z1, z2⟩ := hSw); go_simp; (try with_reducible rfl)
    (try simp only [Act.put, List.setIfInBounds_toArray, List.set_cons_zero, List.set_cons_succ])
    refine wpAnyH_take (i := 9) (v := ?_) (by simp only [List.getElem?_toArray, List.getElem?_cons_succ, List.getElem?_cons_zero]; rfl) (by kernel_rfl) (by kernel_rfl) (by kernel_rfl) (by exact fun _ _ _ h => h) (Or.inl ⟨by rfl, ?_⟩) (by assumption) ?_
    rotate_left 1
    · intro w hSw; (obtain ⟨z0, z1, z2⟩ := hSw); go_simp; (try with_reducible rfl)
    (try simp only [Act.put, List.setIfInBounds_toArray, List.set_cons_zero, List.set_cons_succ])
    refine wpAnyH_take (i := 10) (v := ?_) (by simp only [List.getElem?_toArray, List.getElem?_cons_succ, List.getElem?_cons_zero]; rfl) (by kernel_rfl) (by kernel_rfl) (by kernel_rfl) (by exact fun _ _ _ h => h) (Or.inl ⟨by rfl, ?_⟩) (by assumption) ?_
    rotate_left 1
    · intro w hSw; (obtain ⟨z0, z1, z2⟩ := hSw); go_simp; (try with_reducible rfl)
    (try simp only [Act.put, List.setIfInBounds_toArray, List.set_cons_zero, List.set_cons_succ])
    refine wpAnyH_take (i := 11) (v := ?_) (by simp only [List.getElem?_toArray, List.getElem?_cons_succ, List.getElem?_cons_zero]; rfl) (by kernel_rfl) (by kernel_rfl) (by kernel_rfl) (by exact fun _ _ _ h => h) (Or.inl ⟨by rfl, ?_⟩) (by assumption) ?_
    rotate_left 1
    · intro w hSw; (obtain ⟨z0, z1, z2⟩ := hSw); go_simp; (try with_reducible rfl)
    (try simp only [Act.put, List.setIfInBounds_toArray, List.set_cons_zero, List.set_cons_succ])
    refine wpAnyH_take (i := 12) (v := ?_) (by simp only [List.getElem?_toArray, List.getElem?_cons_succ, List.getElem?_cons_zero]; rfl) (by kernel_rfl) (by kernel_rfl) (by kernel_rfl) (by exact fun _ _ _ h => h) (Or.inl ⟨by rfl, ?_⟩) (by assumption) ?_
    rotate_left 1
    · intro w hSw; (obtain ⟨z0, z1, z2⟩ := hSw); go_simp; (try with_reducible rfl)
    (try simp only [Act.put, List.setIfInBounds_toArray, List.set_cons_zero, List.set_cons_succ])
    have hHeld0 := hHeld
    refine wpAnyH_ready (rs := [13]) (by kernel_rfl) (by simp) ?_
    refine AllReadyH.cons (by simp only [List.getElem?_toArray, List.getElem?_cons_succ, List.getElem?_cons_zero]; rfl) (fun Kq hKq => ?_) AllReadyH.nil
    go_simp
    refine (rgaps_any y1 y1.heap.size sa sc s.sk (s.una, s.next) ls3 (Nat.le_refl _)).mono ?_
    rintro e y2 ⟨ga2, gc2, rfl, hgs, hb, -⟩
    have hk3 := (show (fun W : World => W.cell? ⟨B, 0, none⟩ = some (.int .i64 s.una) ∧ W.cell? ⟨B, 1, none⟩ = some (.int .i64 s.next) ∧ W.cell? ⟨B, 2, none⟩ = some (.slice sa s.sk.length sc)) y2 from ⟨cell_bel2 hHeld0.1 (block_lt_of_cell hHeld0.1) hb, cell_bel2 hHeld0.2.1 (block_lt_of_cell hHeld0.2.1) hb, cell_bel2 hHeld0.2.2 (block_lt_of_cell hHeld0.2.2) hb⟩)
    replace HS := Lib.hid (HS.out.below hb)
    replace HB := Lib.hid (HB.out.trans (hb.mono HB.out.size))
    rw [show gapsL s.sk (s.una, s.next) = s.gaps from rfl] at hgs ⊢
    have HG := Lib.hid hgs
    clear hb ls3 hHeld0 hgs
    go_simp
    refine hKq.out _ _ (hk3) (fun hHeld2 => ?_)
    clear hKq Kq hHeld
    (try simp only [Act.put, List.setIfInBounds_toArray, List.set_cons_zero, List.set_cons_succ])
    have hHeld := hHeld2
    clear hHeld2
    refine wpAnyH_take (i := 14) (v := ?_) (by simp only [List.getElem?_toArray, List.getElem?_cons_succ, List.getElem?_cons_zero]; rfl) (by kernel_rfl) (by kernel_rfl) (by kernel_rfl) (by exact fun _ _ _ h => h) (Or.inl ⟨by rfl, ?_⟩) (by assumption) ?_
    rotate_left 1
    · intro w hSw; (obtain ⟨z0, z1, z2⟩ := hSw); go_simp; (try with_reducible rfl)
    (try simp only [Act.put, List.setIfInBounds_toArray, List.set_cons_zero, List.set_cons_succ])
    refine wpAnyH_done (by kernel_rfl) ?_ _
    clear hHeld hk3
    have HAR := Lib.hid (allR_eq HOK.out m)
    have HGP := Lib.hid (fun g (hg : g ∈ s.gaps) => canonF_lt (gaps_canon s) hg)
    generalize s.gaps = G at HG HAR HGA HGP ⊢
    have HL0 := Lib.hid HS.out.2.1
    go_wp2_with fail
    go_loopg [6, 7] G.length (fun g ov kv wr => ∃ (k : Nat), kv = .int .i64 (k : Int) ∧ g + k = G.length ∧ OwnSp wr y2.heap.size ov (allR s m (G.take k)) ∧ Below y2.heap.size y2 wr)
    case atStart => exact ⟨0, rfl, rfl, OwnSp.nil _ _, Below.refl _ _⟩
    case round =>
      obtain ⟨k, rfl, hg, ho, hb2⟩ := hrel
      have HO := Lib.hid ho
      have HB2 := Lib.hid hb2
      have hws := hb2.size
      clear ho hb2
      by_cases hk : k < G.length
      · obtain ⟨b, off, rfl, hbk, hcs⟩ := HG.out.cells (by omega)
        obtain ⟨d0, d1⟩ := hcs k hk
        clear hcs
        have hkr : (k : Int) < (G.length : Int) := by omega
        replace d0 := cell_bel2 d0 (by omega) HB2.out
        replace d1 := cell_bel2 d1 (by omega) HB2.out
        have HLN := Lib.hid (show (allR s m (G.take k)).length ≤ 4398046511104 by have := allR_len s m (G.take k); have := HGA.out; rw [List.length_take] at *; omega)
        have HT := Lib.hid (show allR s m (G.take (k + 1)) = allR s m (G.take k) ++ withL [refOf s m G[k]] by rw [List.take_succ_eq_append_getElem hk, allR_snoc])
        have hxx := HGP.out G[k] (List.getElem_mem hk)
        generalize G[k] = x at d0 d1 HT hxx
        obtain ⟨x1, x2⟩ := x
        dsimp only at d0 d1 HT hxx
        generalize allR s m (G.take k) = O at HO HLN HT
        go_wp2_with fail
        clear d0 d1
        have hbx := rcBel wr (.cells #[.int .i64 x1, .int .i64 x2] 51)
        have e0 := At.new (W := wr) (i := 0) (v := .int .i64 x1) (vs := #[.int .i64 x1, .int .i64 x2]) 51 rfl rfl
        have e1 := At.new (W := wr) (i := 1) (v := .int .i64 x2) (vs := #[.int .i64 x1, .int .i64 x2]) 51 rfl rfl
        have HNE := Lib.hid (show ∀ kk, u6.ownBlock = some kk → kk < wr.heap.size from fun kk e => (HO.out.lt kk e).2)
        replace HO := Lib.hid (HO.out.alloc (.cells #[.int .i64 x1, .int .i64 x2] 51))
        replace HB2 := Lib.hid (HB2.out.alloc hws (.cells #[.int .i64 x1, .int .i64 x2] 51))
        skip
        obtain ⟨Xb, hXb⟩ : ∃ Xb, Xb = wr.heap.size := ⟨_, rfl⟩
        rw [← hXb] at e0 e1 HNE ⊢
        have hXn : y2.heap.size ≤ Xb := by omega
        have hXs : Xb < (wr.alloc (.cells #[.int .i64 x1, .int .i64 x2] 51)).heap.size := by rw [World.size_alloc]; omega
        clear hXb hbx
        generalize wr.alloc (.cells #[.int .i64 x1, .int .i64 x2] 51) = wa at e0 e1 HO HB2 hXs ⊢
        obtain ⟨sa, sc, ga, gc, -, -, ⟨k2, -⟩, -, -, ls3, -⟩ := (HS.out.below HB2.out).ats
        have hK := (show (fun W : World => W.cell? ⟨B, 2, none⟩ = some (.slice sa s.sk.length sc) ∧ W.cell? ⟨Xb, 0, none⟩ = some (.int .i64 x1) ∧ W.cell? ⟨Xb, 1, none⟩ = some (.int .i64 x2)) wa from ⟨k2, e0.1, e1.1⟩)
        refine wp_region_held_drew (S := (fun W : World => W.cell? ⟨B, 2, none⟩ = some (.slice sa s.sk.length sc) ∧ W.cell? ⟨Xb, 0, none⟩ = some (.int .i64 x1) ∧ W.cell? ⟨Xb, 1, none⟩ = some (.int .i64 x2))) (by kernel_rfl) (hK) (fun hHeld => ?_)
        clear hK k2
        replace ls3 := (show SpAt wa.drew wa.drew.heap.size sa s.sk from ls3.1.below (Below.refl _ wa).drew)
        replace HO := Lib.hid (HO.out.ownBel (Below.refl _ wa).drew)
        replace HB2 := Lib.hid HB2.out.drew
        replace e0 : At Xb 0 _ wa.drew := e0
        replace e1 : At Xb 1 _ wa.drew := e1
        replace hXs : Xb < wa.drew.heap.size := hXs
        generalize wa.drew = wb at ls3 HO HB2 e0 e1 hXs hHeld ⊢
        refine wpAnyH_take (i := 0) (v := ?_) (by simp only [List.getElem?_toArray, List.getElem?_cons_zero]; rfl) (by kernel_rfl) (by kernel_rfl) (by kernel_rfl) (by exact fun _ _ _ h => h) (Or.inl ⟨by rfl, ?_⟩) (by assumption) ?_
        rotate_left 1
        · intro w hSw; (obtain ⟨z0, z1, z2⟩ := hSw); go_simp; (try with_reducible rfl)
        (try simp only [Act.put, List.setIfInBounds_toArray, List.set_cons_zero, List.set_cons_succ])
        refine wpAnyH_take (i := 1) (v := ?_) (by simp only [List.getElem?_toArray, List.getElem?_cons_succ, List.getElem?_cons_zero]; rfl) (by kernel_rfl) (by kernel_rfl) (by kernel_rfl) (by exact fun _ _ _ h => h) (Or.inl ⟨by rfl, ?_⟩) (by assumption) ?_
        rotate_left 1
        · intro w hSw; (obtain ⟨z0, z1, z2⟩ := hSw); go_simp; (try with_reducible rfl)
        (try simp only [Act.put, List.setIfInBounds_toArray, List.set_cons_zero, List.set_cons_succ])
        refine wpAnyH_take (i := 2) (v := ?_) (by simp only [List.getElem?_toArray, List.getElem?_cons_succ, List.getElem?_cons_zero]; rfl) (by kernel_rfl) (by kernel_rfl) (by kernel_rfl) (by exact fun _ _ _ h => h) (Or.inl ⟨by rfl, ?_⟩) (by assumption) ?_
        rotate_left 1
        · intro w hSw; (obtain ⟨z0, z1, z2⟩ := hSw); go_simp; (try with_reducible rfl)
        (try simp only [Act.put, List.setIfInBounds_toArray, List.set_cons_zero, List.set_cons_succ])
        refine wpAnyH_take (i := 3) (v := ?_) (by simp only [List.getElem?_toArray, List.getElem?_cons_succ, List.getElem?_cons_zero]; rfl) (by kernel_rfl) (by kernel_rfl) (by kernel_rfl) (by exact fun _ _ _ h => h) (Or.inl ⟨by rfl, ?_⟩) (by assumption) ?_
        rotate_left 1
        · intro w hSw; (obtain ⟨z0, z1, z2⟩ := hSw); go_simp; (try with_reducible rfl)
        (try simp only [Act.put, List.setIfInBounds_toArray, List.set_cons_zero, List.set_cons_succ])
        refine wpAnyH_take (i := 4) (v := ?_) (by simp only [List.getElem?_toArray, List.getElem?_cons_succ, List.getElem?_cons_zero]; rfl) (by kernel_rfl) (by kernel_rfl) (by kernel_rfl) (by exact fun _ _ _ h => h) (Or.inl ⟨by rfl, ?_⟩) (by assumption) ?_
        rotate_left 1
        · intro w hSw; (obtain ⟨z0, z1, z2⟩ := hSw); go_simp; (try with_reducible rfl)
        (try simp only [Act.put, List.setIfInBounds_toArray, List.set_cons_zero, List.set_cons_succ])
        refine wpAnyH_take (i := 5) (v := ?_) (by simp only [List.getElem?_toArray, List.getElem?_cons_succ, List.getElem?_cons_zero]; rfl) (by kernel_rfl) (by kernel_rfl) (by kernel_rfl) (by exact fun _ _ _ h => h) (Or.inl ⟨by rfl, ?_⟩) (by assumption) ?_
        rotate_left 1
        · intro w hSw; (obtain ⟨z0, z1, z2⟩ := hSw); go_simp; (try with_reducible rfl)
        (try simp only [Act.put, List.setIfInBounds_toArray, List.set_cons_zero, List.set_cons_succ])
        have hHeld0 := hHeld
        refine wpAnyH_ready (rs := [6]) (by kernel_rfl) (by simp) ?_
        refine AllReadyH.cons (by simp only [List.getElem?_toArray, List.getElem?_cons_succ, List.getElem?_cons_zero]; rfl) (fun Kq hKq => ?_) AllReadyH.nil
        go_simp
        refine (rabove_any wb wb.heap.size sa sc s.sk x2 ls3 (Nat.le_refl _)).mono ?_
        rintro e y4 ⟨v, rfl, hO, hb⟩
        have hk3 := (show (fun W : World => W.cell? ⟨B, 2, none⟩ = some (.slice sa s.sk.length sc) ∧ W.cell? ⟨Xb, 0, none⟩ = some (.int .i64 x1) ∧ W.cell? ⟨Xb, 1, none⟩ = some (.int .i64 x2)) y4 from ⟨cell_bel2 hHeld0.1 (block_lt_of_cell hHeld0.1) hb, cell_bel2 hHeld0.2.1 (block_lt_of_cell hHeld0.2.1) hb, cell_bel2 hHeld0.2.2 (block_lt_of_cell hHeld0.2.2) hb⟩)
        obtain ⟨va, vc, rfl, hup, -, -⟩ := hO.at (canonF_len (abvL_spec (n := x2) (show canonF (-1) s.sk = true from HOK.out.csk)).1)
        have HUP := Lib.hid hup
        replace e0 := e0.below hb hXs
        replace e1 := e1.below hb hXs
        replace HO := Lib.hid (HO.out.ownBel hb)
        replace HB2 := Lib.hid (HB2.out.trans (hb.mono HB2.out.size))
        replace hXs := Nat.lt_of_lt_of_le hXs hb.size
        clear hb ls3 hHeld0 hO hup
        go_simp
        refine hKq.out _ _ (hk3) (fun hHeld2 => ?_)
        clear hKq Kq hHeld
        (try simp only [Act.put, List.setIfInBounds_toArray, List.set_cons_zero, List.set_cons_succ])
        have hHeld := hHeld2
        clear hHeld2
        refine wpAnyH_take (i := 7) (v := ?_) (by simp only [List.getElem?_toArray, List.getElem?_cons_succ, List.getElem?_cons_zero]; rfl) (by kernel_rfl) (by kernel_rfl) (by kernel_rfl) (by exact fun _ _ _ h => h) (Or.inl ⟨by rfl, ?_⟩) (by assumption) ?_
        rotate_left 1
        · intro w hSw; (obtain ⟨z0, z1, z2⟩ := hSw); go_simp; (try with_reducible rfl)
        (try simp only [Act.put, List.setIfInBounds_toArray, List.set_cons_zero, List.set_cons_succ])
        refine wpAnyH_done (by kernel_rfl) ?_ _
        clear hHeld hk3
        have HCU := Lib.hid (show countL (abvL x2 s.sk) = countF (abvL x2 s.sk) by unfold countL; rw [if_pos (show canonB _ = true from (abvL_spec (n := x2) (show canonF (-1) s.sk = true from HOK.out.csk)).1)])
        have hcb := countF_nonneg (abvL_spec (n := x2) (show canonF (-1) s.sk = true from HOK.out.csk)).1
        have HRF := Lib.hid (show refOf s m (x1, x2) = if countF (abvL x2 s.sk) < 3 * m ∧ (abvL x2 s.sk).length < 3 then (x1, min x2 s.mark) else (x1, x2) from rfl)
        generalize abvL x2 s.sk = U at HUP HCU hcb HRF ⊢
        go_upto_region 10 with fail
        go_cut [64] (fun cv wx => cv = .bool (decide (countF U < 3 * m ∧ U.length < 3)) ∧ Below y4.heap.size y4 wx)
        case first =>
          go_wp2_with fail
          refine (rcount_any y4 y4.heap.size va vc U HUP.out (Nat.le_refl _)).mono ?_
          rintro e y5 ⟨rfl, hb⟩
          rw [HCU.out]
          have HBC := Lib.hid hb
          clear hb
          have hm3 : m < 1125899906842624 := by omega
          by_cases hc1 : countF U < 3 * m
          · by_cases hc2 : U.length < 3
            · have hc3 : (U.length : Int) < 3 := by omega
              go_wp2_with fail
              go_meet
              case rel => exact ⟨by rw [decide_eq_true (show countF U < 3 * m ∧ U.length < 3 from ⟨hc1, hc2⟩)], HBC.out⟩
            · have hc3 : ¬ (U.length : Int) < 3 := by omega
              go_wp2_with fail
              go_meet
              case rel => exact ⟨congrArg Value.bool (by rw [decide_eq_false (show ¬ (countF U < 3 * m ∧ U.length < 3) by omega)]; first | rfl | exact decide_eq_false (show ¬ ((U.length : Int) < 3) by omega)), HBC.out⟩
          · go_wp2_with fail
            go_meet
            case rel => exact ⟨congrArg Value.bool (by rw [decide_eq_false (show ¬ (countF U < 3 * m ∧ U.length < 3) by omega)]), HBC.out⟩
        case rest =>
          obtain ⟨rfl, hbc⟩ := hcut
          replace e0 := e0.below hbc hXs
          replace e1 := e1.below hbc hXs
          replace HO := Lib.hid (HO.out.ownBel hbc)
          replace HB2 := Lib.hid (HB2.out.trans (hbc.mono HB2.out.size))
          replace hXs := Nat.lt_of_lt_of_le hXs hbc.size
          clear hbc HUP HCU hcb
          by_cases hc : countF U < 3 * m ∧ U.length < 3
          · rw [decide_eq_true hc]
            go_wp2_with fail
            obtain ⟨sa3, sc3, ga3, gc3, -, -, -, -, ⟨k4, -⟩, -, -⟩ := (HS.out.below HB2.out).ats
            have hK := (show (fun W : World => W.cell? ⟨B, 4, none⟩ = some (.int .i64 s.mark)) wc from k4)
            refine wp_region_held_drew (S := (fun W : World => W.cell? ⟨B, 4, none⟩ = some (.int .i64 s.mark))) (by kernel_rfl) (hK) (fun hHeld => ?_)
            clear hK k4
            replace HO := Lib.hid (HO.out.ownBel (Below.refl _ wc).drew)
            replace HB2 := Lib.hid HB2.out.drew
            replace e0 : At Xb 0 _ wc.drew := e0
            replace e1 : At Xb 1 _ wc.drew := e1
            replace hXs : Xb < wc.drew.heap.size := hXs
            generalize wc.drew = wd at HO HB2 e0 e1 hXs hHeld ⊢
            obtain ⟨z1, f1⟩ := e1
            refine wpAnyH_take (i := 0) (v := ?_) (by simp only [List.getElem?_toArray, List.getElem?_cons_zero]; rfl) (by kernel_rfl) (by kernel_rfl) (by kernel_rfl) (by exact fun _ _ _ h => h) (Or.inl ⟨by rfl, ?_⟩) (by assumption) ?_
            rotate_left 1
            · intro w hSw; (try dsimp only at hSw); go_simp; (try with_reducible rfl)
            (try simp only [Act.put, List.setIfInBounds_toArray, List.set_cons_zero, List.set_cons_succ])
            refine wpAnyH_take (i := 2) (v := ?_) (by simp only [List.getElem?_toArray, List.getElem?_cons_succ, List.getElem?_cons_zero]; rfl) (by kernel_rfl) (by kernel_rfl) (by kernel_rfl) (by exact fun _ _ _ h => h) (Or.inl ⟨by rfl, ?_⟩) (by assumption) ?_
            rotate_left 1
            · intro w hSw; (try dsimp only at hSw); go_simp; (try with_reducible rfl)
            (try simp only [Act.put, List.setIfInBounds_toArray, List.set_cons_zero, List.set_cons_succ])
            refine wpAnyH_take (i := 3) (v := ?_) (by simp only [List.getElem?_toArray, List.getElem?_cons_succ, List.getElem?_cons_zero]; rfl) (by kernel_rfl) (by kernel_rfl) (by kernel_rfl) (by exact fun _ _ _ h => h) (Or.inl ⟨by rfl, ?_⟩) (by assumption) ?_
            rotate_left 1
            · intro w hSw; (try dsimp only at hSw); go_simp; (try with_reducible rfl)
            (try simp only [Act.put, List.setIfInBounds_toArray, List.set_cons_zero, List.set_cons_succ])
            refine wpAnyH_take (i := 4) (v := ?_) (by simp only [List.getElem?_toArray, List.getElem?_cons_succ, List.getElem?_cons_zero]; rfl) (by kernel_rfl) (by kernel_rfl) (by kernel_rfl) (by exact fun _ _ _ h => h) (Or.inl ⟨by rfl, ?_⟩) (by assumption) ?_
            rotate_left 1
            · intro w hSw; (try dsimp only at hSw); go_simp; (try with_reducible rfl)
            (try simp only [Act.put, List.setIfInBounds_toArray, List.set_cons_zero, List.set_cons_succ])
            refine wpAnyH_take (i := 5) (v := ?_) (by simp only [List.getElem?_toArray, List.getElem?_cons_succ, List.getElem?_cons_zero]; rfl) (by kernel_rfl) (by kernel_rfl) (by kernel_rfl) (by exact fun _ _ _ h => h) (Or.inl ⟨by rfl, ?_⟩) (by assumption) ?_
            rotate_left 1
            · intro w hSw; (try dsimp only at hSw); go_simp; (try with_reducible rfl)
            (try simp only [Act.put, List.setIfInBounds_toArray, List.set_cons_zero, List.set_cons_succ])
            refine wpAnyH_ready (rs := [1]) (by kernel_rfl) (by simp) ?_
            refine AllReadyH.cons (by simp only [List.getElem?_toArray, List.getElem?_cons_succ, List.getElem?_cons_zero]; rfl) (fun Kq hKq => ?_) AllReadyH.nil
            go_simp
            refine hKq.out _ _ (hHeld) (fun hHeld2 => ?_)
            clear hKq Kq hHeld
            (try simp only [Act.put, List.setIfInBounds_toArray, List.set_cons_zero, List.set_cons_succ])
            have hHeld := hHeld2
            clear hHeld2
            refine wpAnyH_take (i := 6) (v := ?_) (by simp only [List.getElem?_toArray, List.getElem?_cons_succ, List.getElem?_cons_zero]; rfl) (by kernel_rfl) (by kernel_rfl) (by kernel_rfl) (by exact fun _ _ _ h => h) (Or.inl ⟨by rfl, ?_⟩) (by assumption) ?_
            rotate_left 1
            · intro w hSw; (try dsimp only at hSw); go_simp; (try with_reducible rfl)
            (try simp only [Act.put, List.setIfInBounds_toArray, List.set_cons_zero, List.set_cons_succ])
            refine wpAnyH_take (i := 7) (v := ?_) (by simp only [List.getElem?_toArray, List.getElem?_cons_succ, List.getElem?_cons_zero]; rfl) (by kernel_rfl) (by kernel_rfl) (by kernel_rfl) (by exact fun _ _ _ h => h) (Or.inl ⟨by rfl, ?_⟩) (by assumption) ?_
            rotate_left 1
            · intro w hSw; (try dsimp only at hSw); go_simp; (try with_reducible rfl)
            (try simp only [Act.put, List.setIfInBounds_toArray, List.set_cons_zero, List.set_cons_succ])
            have hKs := (show (fun W : World => W.cell? ⟨B, 4, none⟩ = some (.int .i64 s.mark)) (wd.setCell ⟨Xb, 1, none⟩ (.int .i64 (if s.mark < x2 then s.mark else x2))) from (World.cell?_setCell_other _ _ _ _ (by intro e; have e2 := congrArg Addr.block e; dsimp only at e2; have := HS.out.lt; omega)).trans hHeld)
            refine wpAnyH_ready (rs := [8]) (by kernel_rfl) (by simp) ?_
            refine AllReadyH.cons (by simp only [List.getElem?_toArray, List.getElem?_cons_succ, List.getElem?_cons_zero]; rfl) (fun Kq hKq => ?_) AllReadyH.nil
            go_simp
            refine hKq.out _ _ (hKs) (fun hHeld2 => ?_)
            clear hKq Kq hHeld
            (try simp only [Act.put, List.setIfInBounds_toArray, List.set_cons_zero, List.set_cons_succ])
            have hHeld := hHeld2
            clear hHeld2
            refine wpAnyH_done (by kernel_rfl) ?_ _
            clear hHeld hKs
            obtain ⟨mv, hmv⟩ : ∃ mv, mv = (if s.mark < x2 then s.mark else x2) := ⟨_, rfl⟩
            rw [← hmv]
            have HMV := Lib.hid (show mv = min x2 s.mark by rw [hmv]; split <;> omega)
            clear hmv
            replace e0 := e0.other ⟨Xb, 1, none⟩ (.int .i64 mv) (by intro e; cases e)
            have e1 := (show At Xb 1 (.int .i64 x2) wd from ⟨z1, f1⟩).set (.int .i64 mv)
            clear z1 f1
            replace HO := Lib.hid (HO.out.setCell Xb 1 (.int .i64 mv) (fun e => by have := HNE.out Xb e; omega))
            replace HB2 := Lib.hid (HB2.out.setCell (p := ⟨Xb, 1, none⟩) hXn (.int .i64 mv))
            generalize wd.setCell ⟨Xb, 1, none⟩ (.int .i64 mv) = wf at HO HB2 e0 e1 ⊢
            obtain ⟨z0, f0⟩ := e0
            obtain ⟨z1, f1⟩ := e1
            have hwf := HB2.out.size
            by_cases hlt : x1 < mv
            · go_wp2_with (first | (at_builtin; refine wpList_append_span _ rfl _ _ rfl y2.heap.size _ _ rfl (HO.out.alloc _) HLN.out _ (x1, mv) rfl (by simp) (by simp) (by simp; omega) ?_))
              intro v9 w9 ho9 hg9 hb9
              have HO9 := Lib.hid ho9
              have HB9 := Lib.hid ((HB2.out.alloc HB2.out.size (.cells #[.int .i64 x1, .int .i64 mv] 51)).trans (grown_below hg9 (Nat.le_trans HB2.out.size (by simp)) (fun kk e => ((HO.out.alloc (.cells #[.int .i64 x1, .int .i64 mv] 51)).lt kk e).1)))
              clear ho9 hg9 hb9
              go_wp2_with fail
              go_roundg (gk - 1)
              case measure => omega
              case rel => exact ⟨k + 1, by first | go_num | (have hsm := HGA.out; have e : wrap64 ((k : Int) + 1) = ((k + 1 : Nat) : Int) := (by unfold wrap64; omega); rw [e]), by omega, by rw [HT.out, HRF.out, if_pos hc, ← HMV.out, withL_cons, if_pos (by dsimp only; omega)]; exact HO9.out, HB9.out⟩
            · have hlt2 : mv ≤ x1 := by omega
              go_wp2_with fail
              go_roundg (gk - 1)
              case measure => omega
              case rel => exact ⟨k + 1, by first | go_num | (have hsm := HGA.out; have e : wrap64 ((k : Int) + 1) = ((k + 1 : Nat) : Int) := (by unfold wrap64; omega); rw [e]), by omega, by rw [HT.out, HRF.out, if_pos hc, ← HMV.out, withL_cons, if_neg (by dsimp only; omega)]; show OwnSp _ _ _ (O ++ []); rw [List.append_nil]; exact HO.out, HB2.out⟩
          · rw [decide_eq_false hc]
            obtain ⟨z0, f0⟩ := e0
            obtain ⟨z1, f1⟩ := e1
            have hwf := HB2.out.size
            go_wp2_with (first | (at_builtin; refine wpList_append_span _ rfl _ _ rfl y2.heap.size _ _ rfl (HO.out.alloc _) HLN.out _ (x1, x2) rfl (by simp) (by simp) (by simp; omega) ?_))
            intro v9 w9 ho9 hg9 hb9
            have HO9 := Lib.hid ho9
            have HB9 := Lib.hid ((HB2.out.alloc HB2.out.size (.cells #[.int .i64 x1, .int .i64 x2] 51)).trans (grown_below hg9 (Nat.le_trans HB2.out.size (by simp)) (fun kk e => ((HO.out.alloc (.cells #[.int .i64 x1, .int .i64 x2] 51)).lt kk e).1)))
            clear ho9 hg9 hb9
            go_wp2_with fail
            go_roundg (gk - 1)
            case measure => omega
            case rel => exact ⟨k + 1, by first | go_num | (have hsm := HGA.out; have e : wrap64 ((k : Int) + 1) = ((k + 1 : Nat) : Int) := (by unfold wrap64; omega); rw [e]), by omega, by rw [HT.out, HRF.out, if_neg hc, withL_cons, if_pos (by dsimp only; omega)]; exact HO9.out, HB9.out⟩
      · go_wp2_with fail
        go_ret
        obtain rfl : k = G.length := by omega
        have h := HO.out
        rw [List.take_length, HAR.out] at h
        exact ⟨_, rfl, h.mono HB.out.size, HB.out.trans (HB2.out.mono HB.out.size)⟩
theorem remfold_canon (L : List Sp) {O : List Sp} (hO : canonB O = true) : canonB (L.foldl remL O) = true := by
  induction L generalizing O with
  | nil => exact hO
  | cons y l ih => exact ih (remL_canon O y)
set_option maxRecDepth 100000 in
set_option maxHeartbeats 4000000 in
theorem rclost_any (B lb : Nat) (s : Sc) (m : Int) (w : World) (ok : s.Ok) (hs : RcAt B lb s w) (hm1 : 1 ≤ m) (hm2 : m ≤ 1000) :
    Calls Try.prog 94 #[.pointer (some ⟨B, 0, none⟩), .int .i64 m] w fun e w' => ∃ v, e = .returned v ∧ OwnSp w' w.heap.size v (s.lost m) ∧ Below w.heap.size w w' := by
  have HOK := Lib.hid ok
  have HS := Lib.hid hs
  clear ok hs
  go_enter Try.func94, Try.ntmps94
  go_wp2_with fail
  refine (rcall_any B lb s m w HOK.out HS.out hm1 hm2).mono ?_
  rintro e w1 ⟨v, rfl, hO, hb⟩
  have HO := Lib.hid hO
  have HB := Lib.hid hb
  clear hO hb
  have HAL := Lib.hid (canonF_len HOK.out.cag)
  have HCL := Lib.hid (show ∀ L : List Sp, canonB (L.foldl remL (s.all m)) = true from fun L => remfold_canon L (all_spec s m).1)
  go_wp2_with fail
  go_loopg [5, 6] s.ag.length (fun g ov kv wr => ∃ (k : Nat), kv = .int .i64 (k : Int) ∧ g + k = s.ag.length ∧ OwnSp wr w.heap.size ov ((s.ag.take k).foldl remL (s.all m)) ∧ Below w.heap.size w wr)
  case atStart => exact ⟨0, rfl, rfl, HO.out, HB.out⟩
  case round =>
    clear HO HB
    obtain ⟨k, rfl, hg, ho, hb⟩ := hrel
    have HO := Lib.hid ho
    have HB := Lib.hid hb
    have HSW := Lib.hid (HS.out.below hb)
    have hws := hb.size
    clear ho hb
    obtain ⟨sa, sc, ga, gc, -, -, -, ⟨k3, -⟩, -, -, lg⟩ := HSW.out.ats
    by_cases hk : k < s.ag.length
    · obtain ⟨b, off, rfl, hbk, hcs⟩ := lg.1.cells (by omega)
      obtain ⟨d0, d1⟩ := hcs k hk
      clear hcs lg
      have hkr : (k : Int) < (s.ag.length : Int) := by omega
      have HT := Lib.hid (show (s.ag.take (k + 1)).foldl remL (s.all m) = remL ((s.ag.take k).foldl remL (s.all m)) s.ag[k] by rw [List.take_succ_eq_append_getElem hk, List.foldl_append]; rfl)
      have hlo := canonF_len (HCL.out (s.ag.take k))
      obtain ⟨va, vc, rfl, hsp, -, -⟩ := HO.out.at hlo
      have HSP := Lib.hid hsp
      clear hsp HO hlo
      generalize s.ag[k] = x at d0 d1 HT
      obtain ⟨x1, x2⟩ := x
      dsimp only at d0 d1
      generalize (s.ag.take k).foldl remL (s.all m) = O at HSP HT ⊢
      go_wp2_with fail
      refine (rremove_any wr wr.heap.size va vc O (x1, x2) HSP.out (Nat.le_refl _)).mono ?_
      rintro e w3 ⟨v3, rfl, hO3, hb⟩
      clear d0 d1 k3
      have HO3 := Lib.hid hO3
      have HB3 := Lib.hid (HB.out.trans (hb.mono hws))
      clear hO3 hb
      go_wp2_with fail
      go_roundg (gk - 1)
      case measure => omega
      case rel => exact ⟨k + 1, by first | go_num | (have hsm := HAL.out; have e : wrap64 ((k : Int) + 1) = ((k + 1 : Nat) : Int) := (by unfold wrap64; omega); rw [e]), by omega, by rw [HT.out]; exact HO3.out.mono hws, HB3.out⟩
    · go_wp2_with fail
      go_ret
      obtain rfl : k = s.ag.length := by omega
      have h := HO.out
      rw [List.take_length, rem_wth (all_spec s m).1 HOK.out.cag, ← lost_eq hm1] at h
      exact ⟨_, rfl, h, HB.out⟩
end Go.Proofs.Ytncjeleabpodaaa
