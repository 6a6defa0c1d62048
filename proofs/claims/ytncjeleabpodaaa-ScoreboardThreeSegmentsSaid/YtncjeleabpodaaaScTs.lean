/- ScoreboardThreeSegments: its walk. -/
import Derived.Test.YtncjeleabpodaaaScMade
import Derived.Test.YtncjeleabpodaaaScSane
import Derived.Test.YtncjeleabpodaaaRgGaps
import Derived.Test.YtncjeleabpodaaaRgCount
import Derived.Test.YtncjeleabpodaaaScTsP
import Derived.Test.YtncjeleabpodaaaOwnI
import Derived.Deep.LoopGhost
import Derived.Deep.CutBlock
import Derived.Deep.DeepCutAuto
import Derived.Deep.RegionHeld3
namespace Go.Proofs.Ytncjeleabpodaaa
open Go.RowKit Go.Shelf
theorem IsRow.len63 {w : World} {a : Option Addr} {len cap : Nat} {zs : List Int} (h : IsRow .i64 w a len cap zs) : len ≤ 9223372036854775807 := by
  rcases h with ⟨_, h, _⟩ | ⟨x, rfl, h1, h2, _⟩
  · omega
  · unfold maxLen at h2; omega
set_option maxRecDepth 100000 in
set_option maxHeartbeats 4000000 in
theorem walk_ScoreboardThreeSegments (w : World) (mss : Int) (hw : (Lit.int .i64 mss).wf = true) (a1 : Option Addr) (len1 cap1 : Nat) (zs : List Int) (hturn : IsRow .i64 w a1 len1 cap1 zs) :
    Calls Try.prog 8 #[.int .i64 mss, .slice a1 len1 cap1] w fun e w' => e = .returned (.bool true) ∧ Below w.heap.size w w' := by
  have hmss : I64 mss := bounds_i64 hw
  clear hw
  have hTL := hturn.len63
  have HTR := Lib.hid hturn
  clear hturn
  go_enter Try.func8, Try.ntmps8
  go_wp2_with fail
  refine (sane_any _).mono ?_
  rintro e v0 ⟨rfl, hb0⟩
  have HB := Lib.hid hb0
  clear hb0
  go_wp2_with fail
  have HPM := Lib.hid (fun W => pick_any mss 100 W hmss (by omega) (by omega))
  have hpm := pickV_bd mss 100 (by omega)
  generalize pickV mss 100 = m0 at HPM hpm ⊢
  refine (HPM.out _).mono ?_
  rintro e w1' ⟨rfl, rfl⟩
  clear HPM
  go_wp2_with fail
  obtain ⟨m, hm⟩ : ∃ m, m = 1 + m0 := ⟨_, rfl⟩
  rw [← hm]
  have hm1 : 1 ≤ m := by omega
  have hm2 : m ≤ 100 := by omega
  clear hm hpm
  refine (scnew_any _).mono ?_
  rintro e v1 ⟨rfl, hw⟩
  have hs0 := ScAt.new (lb := v0.heap.size + 1) hw
  have hs : ScAt v0.heap.size (v0.heap.size + 1) sc0 v1 := hs0.2 v1 (Below.refl _ _) (by omega) hs0.1
  have HS := Lib.hid hs
  have hb1 : Below v0.heap.size v0 v1 := by rw [hw]; exact (Below.refl _ _).alloc (Nat.le_refl _) _
  have hNs : w.heap.size ≤ v0.heap.size := HB.out.size
  replace HB := Lib.hid (HB.out.trans (hb1.mono hNs))
  clear hs hs0 hb1 hw
  obtain ⟨Bs, hBs⟩ : ∃ Bs, Bs = v0.heap.size := ⟨_, rfl⟩
  rw [← hBs] at HS hNs ⊢
  clear hBs
  generalize Bs + 1 = lb at HS
  go_wp2_with fail
  have HTS := Lib.hid (TsI.start hm1 hm2)
  refine (scsent_any Bs _ sc0 (5 * m) _ HS.out).mono ?_
  rintro e v1 ⟨rfl, hS, hc⟩
  replace HB := Lib.hid (HB.out.trans (hc.below hNs HS.out.lt))
  replace HS := Lib.hid hS
  clear hS hc
  rw [HTS.out.2]
  have HI0 := Lib.hid HTS.out.1
  clear HTS
  generalize sc0.sent (5 * m) = s0 at HS HI0
  go_wp2_with fail
  have hb := rcBel v1 (.cells #[.int .i64 1, .int .i64 2, .int .i64 3, .int .i64 4] 3)
  have ho : OwnI (v1.alloc (.cells #[.int .i64 1, .int .i64 2, .int .i64 3, .int .i64 4] 3)) v1.heap.size (.slice (some ⟨v1.heap.size, 0, none⟩) 4 4) [1, 2, 3, 4] := OwnI.lit [1, 2, 3, 4] (Nat.le_refl _) (by unfold maxLen; simp)
  have HO := Lib.hid ho
  have hbo : Bs < v1.heap.size := HS.out.lt
  replace HS := Lib.hid (HS.out.below hb)
  replace HB := Lib.hid (HB.out.trans (hb.mono HB.out.size))
  clear ho hb
  obtain ⟨N, hN⟩ : ∃ N, N = v1.heap.size := ⟨_, rfl⟩
  rw [← hN] at HO hbo ⊢
  have hNw : w.heap.size ≤ N := by omega
  have hNz : N ≤ (v1.alloc (.cells #[.int .i64 1, .int .i64 2, .int .i64 3, .int .i64 4] 3)).heap.size := by rw [World.size_alloc]; omega
  clear hN
  generalize v1.alloc (.cells #[.int .i64 1, .int .i64 2, .int .i64 3, .int .i64 4] 3) = vb at HO HS HB hNz ⊢
  go_loopg [9, 10] 4 (fun g lv iv wr => ∃ (k : Nat) (L : List Int) (s : Sc), iv = .int .i64 (k : Int) ∧ g + k = 4 ∧ L.length + k = 4 ∧ OwnI wr N lv L ∧ TsI m L s ∧ ScAt Bs lb s wr ∧ Below w.heap.size w wr ∧ N ≤ wr.heap.size)
  case atStart => exact ⟨0, [1, 2, 3, 4], s0, rfl, rfl, rfl, HO.out, HI0.out, HS.out, HB.out, hNz⟩
  case round =>
    clear HS HB HI0 HO hNz
    obtain ⟨i, L, s, rfl, hg, hLi, ho, hI, hs, hb, hNz⟩ := hrel
    have HI := Lib.hid hI
    have HS := Lib.hid hs
    have HB := Lib.hid hb
    have HO := Lib.hid ho
    clear hI hs hb ho
    by_cases hi : i < 4
    · obtain ⟨lg, lc, hlv, hlc, hlcm, hlg, hlgs, hcells⟩ := HO.out.cells (by omega)
      subst hlv
      have HCE := Lib.hid hcells
      clear hcells
      have f4 : (i : Int) < 4 := by omega
      go_upto_if 32 with fail
      go_cut [11] (fun kv wx => ∃ k : Nat, k < L.length ∧ kv = .int .i64 (k : Int) ∧ wx = wr)
      case first =>
        by_cases hl0 : 0 < len1
        · obtain ⟨tb, tof, rfl, -, htb, htc⟩ := HTR.out.at hl0
          have hmod : (i : Int).tmod (len1 : Int) = ((i % len1 : Nat) : Int) := by rw [Int.tmod_eq_emod_of_nonneg (by omega)]; rfl
          have hml := Nat.mod_lt i hl0
          obtain ⟨q, hq⟩ : ∃ q, q = i % len1 := ⟨_, rfl⟩
          rw [← hq] at hmod hml
          obtain ⟨hc0, hwf⟩ := htc q hml
          have hbx := bounds_i64 hwf
          generalize zs.getD q 0 = x at hc0 hbx
          have hcell := (HB.out.cell (p := ⟨tb, tof + q, none⟩) htb).trans hc0
          clear htc hc0 hwf hq htb
          have hl1 : (0 : Int) < (len1 : Int) := by omega
          have HPX := Lib.hid (fun W => pick_any x (L.length : Int) W hbx (by omega) (by omega))
          have hpb := pickV_bd x (L.length : Int) (by omega)
          generalize pickV x (L.length : Int) = p at HPX hpb
          go_wp2_with fail
          refine (HPX.out _).mono ?_
          rintro e w1'' ⟨rfl, rfl⟩
          go_wp2_with fail
          go_meet
          case rel => exact ⟨p.toNat, by omega, by rw [show ((p.toNat : Nat) : Int) = p by omega], rfl⟩
        · have hl1 : ¬ (0 : Int) < (len1 : Int) := by omega
          go_wp2_with fail
          go_meet
          case rel => exact ⟨0, by omega, rfl, rfl⟩
      case rest =>
        obtain ⟨k, hkl, rfl, rfl⟩ := hcut
        have hkj := HCE.out k hkl
        have HIS := Lib.hid (HI.out.step hm1 hm2 hkl)
        have hjb := HI.out.four L[k] (List.getElem_mem hkl)
        obtain ⟨j, hj⟩ : ∃ j, j = L[k] := ⟨_, rfl⟩
        rw [← hj] at hkj HIS hjb
        have hkr : (k : Int) < (L.length : Int) := by omega
        clear hj
        have hjm : 1 ≤ j * m ∧ j * m ≤ 400 := by rcases hjb with rfl | rfl | rfl | rfl <;> omega
        have HJW := Lib.hid (show IntKind.i64.wrap (j * m) = j * m ∧ IntKind.i64.wrap (j * m + m) = j * m + m from ⟨IntWalk.i64_in _ (by omega), IntWalk.i64_in _ (by omega)⟩)
        go_wp2_with fail
        refine wp_region_held_drew (S := (fun W : World => W.cell? ⟨lg, k, none⟩ = some (.int .i64 j))) (by kernel_rfl) (hkj) (fun hHeld => ?_)
        clear hkj
        replace HS := Lib.hid (HS.out.below (Below.refl _ wc).drew)
        replace HB := Lib.hid HB.out.drew
        replace HO := Lib.hid (HO.out.bel (Below.refl _ wc).drew)
        replace HCE := Lib.hid (show ∀ i (hi : i < L.length), wc.drew.cell? ⟨lg, i, none⟩ = some (.int .i64 L[i]) from HCE.out)
        replace hNz : N ≤ wc.drew.heap.size := hNz
        replace hlgs : lg < wc.drew.heap.size := hlgs
        generalize wc.drew = y2 at HS HB HO HCE hNz hlgs hHeld ⊢
        refine wpAnyH_take (i := 0) (v := ?_) (by simp only [List.getElem?_toArray, List.getElem?_cons_zero]; rfl) (by kernel_rfl) (by kernel_rfl) (by kernel_rfl) (by exact fun _ _ _ h => h) (Or.inl ⟨by rfl, ?_⟩) (by assumption) ?_
        rotate_left 1
        · intro w hSw; (try dsimp only at hSw); go_simp; (try with_reducible rfl)
        (try simp only [Act.put, List.setIfInBounds_toArray, List.set_cons_zero, List.set_cons_succ])
        refine wpAnyH_take (i := 1) (v := ?_) (by simp only [List.getElem?_toArray, List.getElem?_cons_succ, List.getElem?_cons_zero]; rfl) (by kernel_rfl) (by kernel_rfl) (by kernel_rfl) (by exact fun _ _ _ h => h) (Or.inl ⟨by rfl, ?_⟩) (by assumption) ?_
        rotate_left 1
        · intro w hSw; (try dsimp only at hSw); go_simp; (try with_reducible rfl)
        (try simp only [Act.put, List.setIfInBounds_toArray, List.set_cons_zero, List.set_cons_succ])
        refine wpAnyH_take (i := 2) (v := ?_) (by simp only [List.getElem?_toArray, List.getElem?_cons_succ, List.getElem?_cons_zero]; rfl) (by kernel_rfl) (by kernel_rfl) (by kernel_rfl) (by exact fun _ _ _ h => h) (Or.inl ⟨by rfl, ?_⟩) (by assumption) ?_
        rotate_left 1
        · intro w hSw; (try dsimp only at hSw); go_simp; (try with_reducible rfl)
        (try simp only [Act.put, List.setIfInBounds_toArray, List.set_cons_zero, List.set_cons_succ])
        refine wpAnyH_take (i := 3) (v := ?_) (by simp only [List.getElem?_toArray, List.getElem?_cons_succ, List.getElem?_cons_zero]; rfl) (by kernel_rfl) (by kernel_rfl) (by kernel_rfl) (by exact fun _ _ _ h => h) (Or.inl ⟨by rfl, ?_⟩) (by assumption) ?_
        rotate_left 1
        · intro w hSw; (try dsimp only at hSw); go_simp; (try with_reducible rfl)
        (try simp only [Act.put, List.setIfInBounds_toArray, List.set_cons_zero, List.set_cons_succ])
        refine wpAnyH_take (i := 4) (v := ?_) (by simp only [List.getElem?_toArray, List.getElem?_cons_succ, List.getElem?_cons_zero]; rfl) (by kernel_rfl) (by kernel_rfl) (by kernel_rfl) (by exact fun _ _ _ h => h) (Or.inl ⟨by rfl, ?_⟩) (by assumption) ?_
        rotate_left 1
        · intro w hSw; (try dsimp only at hSw); go_simp; (try with_reducible rfl)
        (try simp only [Act.put, List.setIfInBounds_toArray, List.set_cons_zero, List.set_cons_succ])
        refine wpAnyH_take (i := 5) (v := ?_) (by simp only [List.getElem?_toArray, List.getElem?_cons_succ, List.getElem?_cons_zero]; rfl) (by kernel_rfl) (by kernel_rfl) (by kernel_rfl) (by exact fun _ _ _ h => h) (Or.inl ⟨by rfl, ?_⟩) (by assumption) ?_
        rotate_left 1
        · intro w hSw; (try dsimp only at hSw); go_simp; (try with_reducible rfl)
        (try simp only [Act.put, List.setIfInBounds_toArray, List.set_cons_zero, List.set_cons_succ])
        refine wpAnyH_take (i := 6) (v := ?_) (by simp only [List.getElem?_toArray, List.getElem?_cons_succ, List.getElem?_cons_zero]; rfl) (by kernel_rfl) (by kernel_rfl) (by kernel_rfl) (by exact fun _ _ _ h => h) (Or.inl ⟨by rfl, ?_⟩) (by assumption) ?_
        rotate_left 1
        · intro w hSw; (try dsimp only at hSw); go_simp; (try with_reducible rfl)
        (try simp only [Act.put, List.setIfInBounds_toArray, List.set_cons_zero, List.set_cons_succ])
        rw [HJW.out.1]
        refine wpAnyH_take (i := 7) (v := ?_) (by simp only [List.getElem?_toArray, List.getElem?_cons_succ, List.getElem?_cons_zero]; rfl) (by kernel_rfl) (by kernel_rfl) (by kernel_rfl) (by exact fun _ _ _ h => h) (Or.inl ⟨by rfl, ?_⟩) (by assumption) ?_
        rotate_left 1
        · intro w hSw; (try dsimp only at hSw); go_simp; (try with_reducible rfl)
        (try simp only [Act.put, List.setIfInBounds_toArray, List.set_cons_zero, List.set_cons_succ])
        refine wpAnyH_take (i := 8) (v := ?_) (by simp only [List.getElem?_toArray, List.getElem?_cons_succ, List.getElem?_cons_zero]; rfl) (by kernel_rfl) (by kernel_rfl) (by kernel_rfl) (by exact fun _ _ _ h => h) (Or.inl ⟨by rfl, ?_⟩) (by assumption) ?_
        rotate_left 1
        · intro w hSw; (try dsimp only at hSw); go_simp; (try with_reducible rfl)
        (try simp only [Act.put, List.setIfInBounds_toArray, List.set_cons_zero, List.set_cons_succ])
        refine wpAnyH_take (i := 9) (v := ?_) (by simp only [List.getElem?_toArray, List.getElem?_cons_succ, List.getElem?_cons_zero]; rfl) (by kernel_rfl) (by kernel_rfl) (by kernel_rfl) (by exact fun _ _ _ h => h) (Or.inl ⟨by rfl, ?_⟩) (by assumption) ?_
        rotate_left 1
        · intro w hSw; (try dsimp only at hSw); go_simp; (try with_reducible rfl)
        (try simp only [Act.put, List.setIfInBounds_toArray, List.set_cons_zero, List.set_cons_succ])
        refine wpAnyH_take (i := 10) (v := ?_) (by simp only [List.getElem?_toArray, List.getElem?_cons_succ, List.getElem?_cons_zero]; rfl) (by kernel_rfl) (by kernel_rfl) (by kernel_rfl) (by exact fun _ _ _ h => h) (Or.inl ⟨by rfl, ?_⟩) (by assumption) ?_
        rotate_left 1
        · intro w hSw; (try dsimp only at hSw); go_simp; (try with_reducible rfl)
        (try simp only [Act.put, List.setIfInBounds_toArray, List.set_cons_zero, List.set_cons_succ])
        refine wpAnyH_take (i := 11) (v := ?_) (by simp only [List.getElem?_toArray, List.getElem?_cons_succ, List.getElem?_cons_zero]; rfl) (by kernel_rfl) (by kernel_rfl) (by kernel_rfl) (by exact fun _ _ _ h => h) (Or.inl ⟨by rfl, ?_⟩) (by assumption) ?_
        rotate_left 1
        · intro w hSw; (try dsimp only at hSw); go_simp; (try with_reducible rfl)
        (try simp only [Act.put, List.setIfInBounds_toArray, List.set_cons_zero, List.set_cons_succ])
        refine wpAnyH_take (i := 12) (v := ?_) (by simp only [List.getElem?_toArray, List.getElem?_cons_succ, List.getElem?_cons_zero]; rfl) (by kernel_rfl) (by kernel_rfl) (by kernel_rfl) (by exact fun _ _ _ h => h) (Or.inl ⟨by rfl, ?_⟩) (by assumption) ?_
        rotate_left 1
        · intro w hSw; (try dsimp only at hSw); go_simp; (try with_reducible rfl)
        (try simp only [Act.put, List.setIfInBounds_toArray, List.set_cons_zero, List.set_cons_succ])
        rw [HJW.out.1]
        refine wpAnyH_take (i := 13) (v := ?_) (by simp only [List.getElem?_toArray, List.getElem?_cons_succ, List.getElem?_cons_zero]; rfl) (by kernel_rfl) (by kernel_rfl) (by kernel_rfl) (by exact fun _ _ _ h => h) (Or.inl ⟨by rfl, ?_⟩) (by assumption) ?_
        rotate_left 1
        · intro w hSw; (try dsimp only at hSw); go_simp; (try with_reducible rfl)
        (try simp only [Act.put, List.setIfInBounds_toArray, List.set_cons_zero, List.set_cons_succ])
        refine wpAnyH_take (i := 14) (v := ?_) (by simp only [List.getElem?_toArray, List.getElem?_cons_succ, List.getElem?_cons_zero]; rfl) (by kernel_rfl) (by kernel_rfl) (by kernel_rfl) (by exact fun _ _ _ h => h) (Or.inl ⟨by rfl, ?_⟩) (by assumption) ?_
        rotate_left 1
        · intro w hSw; (try dsimp only at hSw); go_simp; (try with_reducible rfl)
        (try simp only [Act.put, List.setIfInBounds_toArray, List.set_cons_zero, List.set_cons_succ])
        rw [HJW.out.2]
        refine wpAnyH_take (i := 15) (v := ?_) (by simp only [List.getElem?_toArray, List.getElem?_cons_succ, List.getElem?_cons_zero]; rfl) (by kernel_rfl) (by kernel_rfl) (by kernel_rfl) (by exact fun _ _ _ h => h) (Or.inl ⟨by rfl, ?_⟩) (by assumption) ?_
        rotate_left 1
        · intro w hSw; (try dsimp only at hSw); go_simp; (try with_reducible rfl)
        (try simp only [Act.put, List.setIfInBounds_toArray, List.set_cons_zero, List.set_cons_succ])
        have hb := rcBel y2 (.cells #[.int .i64 (j * m), .int .i64 (j * m + m)] 51)
        have hK2 := (show (fun W : World => W.cell? ⟨lg, k, none⟩ = some (.int .i64 j)) (y2.alloc (.cells #[.int .i64 (j * m), .int .i64 (j * m + m)] 51)) from cell_bel2 hHeld (block_lt_of_cell hHeld) hb)
        have hil : InL Bs (some ⟨y2.heap.size, 0, none⟩) [(j * m, j * m + m)] (y2.alloc (.cells #[.int .i64 (j * m), .int .i64 (j * m + m)] 51)) := inl_one (by omega)
        have HL := Lib.hid hil
        replace HS := Lib.hid (HS.out.below hb)
        replace HB := Lib.hid (HB.out.trans (hb.mono HB.out.size))
        replace HO := Lib.hid (HO.out.bel hb)
        replace HCE := Lib.hid (show ∀ i (hi : i < L.length), (y2.alloc (.cells #[.int .i64 (j * m), .int .i64 (j * m + m)] 51)).cell? ⟨lg, i, none⟩ = some (.int .i64 L[i]) from fun i hi => cell_bel2 (HCE.out i hi) hlgs hb)
        replace hNz : N ≤ (y2.alloc (.cells #[.int .i64 (j * m), .int .i64 (j * m + m)] 51)).heap.size := Nat.le_trans hNz hb.size
        replace hlgs : lg < (y2.alloc (.cells #[.int .i64 (j * m), .int .i64 (j * m + m)] 51)).heap.size := Nat.lt_of_lt_of_le hlgs hb.size
        clear hil hb
        refine wpAnyH_ready (rs := [16]) (by kernel_rfl) (by simp) ?_
        refine AllReadyH.cons (by simp only [List.getElem?_toArray, List.getElem?_cons_succ, List.getElem?_cons_zero]; rfl) (fun Kq hKq => ?_) AllReadyH.nil
        go_simp
        refine hKq.out _ _ (hK2) (fun hHeld2 => ?_)
        clear hKq Kq hHeld
        (try simp only [Act.put, List.setIfInBounds_toArray, List.set_cons_zero, List.set_cons_succ])
        have hHeld := hHeld2
        clear hHeld2
        clear hK2
        generalize y2.heap.size = M at HL ⊢
        generalize y2.alloc (.cells #[.int .i64 (j * m), .int .i64 (j * m + m)] 51) = y3 at HS HB HO HCE HL hNz hlgs hHeld ⊢
        have hHeld0 := hHeld
        refine wpAnyH_ready (rs := [17]) (by kernel_rfl) (by simp) ?_
        refine AllReadyH.cons (by simp only [List.getElem?_toArray, List.getElem?_cons_succ, List.getElem?_cons_zero]; rfl) (fun Kq hKq => ?_) AllReadyH.nil
        go_simp
        refine (scacked_any Bs _ s 0 (some ⟨M, 0, none⟩) 1 [(j * m, j * m + m)] _ HI.out.ok HS.out HL.out (by have h := canonF_len2 (n := s.next) HI.out.ok.csk (fun i hi => (HI.out.ok.msk i hi).2); rw [HI.out.next] at h; rw [List.length_append]; simp; omega)).mono ?_
        rintro e y4 ⟨rfl, hS, hc⟩
        have hK3 := (show (fun W : World => W.cell? ⟨lg, k, none⟩ = some (.int .i64 j)) y4 from cell_chg hHeld0 hc (by omega))
        replace HB := Lib.hid (HB.out.trans (hc.below hNs HS.out.lt))
        replace HO := Lib.hid (HO.out.chg hc (by omega))
        replace HCE := Lib.hid (show ∀ i (hi : i < L.length), y4.cell? ⟨lg, i, none⟩ = some (.int .i64 L[i]) from fun i hi => cell_chg (HCE.out i hi) hc (by omega))
        replace hNz : N ≤ y4.heap.size := Nat.le_trans hNz hc.size
        replace hlgs : lg < y4.heap.size := Nat.lt_of_lt_of_le hlgs hc.size
        rw [HIS.out.2.1, HIS.out.2.2]
        replace HS := Lib.hid hS
        clear hS hc hHeld0 HL
        go_simp
        refine hKq.out _ _ (hK3) (fun hHeld2 => ?_)
        clear hKq Kq hHeld
        (try simp only [Act.put, List.setIfInBounds_toArray, List.set_cons_zero, List.set_cons_succ])
        have hHeld := hHeld2
        clear hHeld2
        refine wpAnyH_take (i := 18) (v := ?_) (by simp only [List.getElem?_toArray, List.getElem?_cons_succ, List.getElem?_cons_zero]; rfl) (by kernel_rfl) (by kernel_rfl) (by kernel_rfl) (by exact fun _ _ _ h => h) (Or.inl ⟨by rfl, ?_⟩) (by assumption) ?_
        rotate_left 1
        · intro w hSw; (try dsimp only at hSw); go_simp; (try with_reducible rfl)
        (try simp only [Act.put, List.setIfInBounds_toArray, List.set_cons_zero, List.set_cons_succ])
        refine wpAnyH_take (i := 19) (v := ?_) (by simp only [List.getElem?_toArray, List.getElem?_cons_succ, List.getElem?_cons_zero]; rfl) (by kernel_rfl) (by kernel_rfl) (by kernel_rfl) (by exact fun _ _ _ h => h) (Or.inl ⟨by rfl, ?_⟩) (by assumption) ?_
        rotate_left 1
        · intro w hSw; (try dsimp only at hSw); go_simp; (try with_reducible rfl)
        (try simp only [Act.put, List.setIfInBounds_toArray, List.set_cons_zero, List.set_cons_succ])
        refine wpAnyH_take (i := 20) (v := ?_) (by simp only [List.getElem?_toArray, List.getElem?_cons_succ, List.getElem?_cons_zero]; rfl) (by kernel_rfl) (by kernel_rfl) (by kernel_rfl) (by exact fun _ _ _ h => h) (Or.inl ⟨by rfl, ?_⟩) (by assumption) ?_
        rotate_left 1
        · intro w hSw; (try dsimp only at hSw); go_simp; (try with_reducible rfl)
        (try simp only [Act.put, List.setIfInBounds_toArray, List.set_cons_zero, List.set_cons_succ])
        refine wpAnyH_take (i := 21) (v := ?_) (by simp only [List.getElem?_toArray, List.getElem?_cons_succ, List.getElem?_cons_zero]; rfl) (by kernel_rfl) (by kernel_rfl) (by kernel_rfl) (by exact fun _ _ _ h => h) (Or.inl ⟨by rfl, ?_⟩) (by assumption) ?_
        rotate_left 1
        · intro w hSw; (try dsimp only at hSw); go_simp; (try with_reducible rfl)
        (try simp only [Act.put, List.setIfInBounds_toArray, List.set_cons_zero, List.set_cons_succ])
        refine wpAnyH_take (i := 22) (v := ?_) (by simp only [List.getElem?_toArray, List.getElem?_cons_succ, List.getElem?_cons_zero]; rfl) (by kernel_rfl) (by kernel_rfl) (by kernel_rfl) (by exact fun _ _ _ h => h) (Or.inl ⟨by rfl, ?_⟩) (by assumption) ?_
        rotate_left 1
        · intro w hSw; (try dsimp only at hSw); go_simp; (try with_reducible rfl)
        (try simp only [Act.put, List.setIfInBounds_toArray, List.set_cons_zero, List.set_cons_succ])
        refine wpAnyH_done (by kernel_rfl) ?_ _
        clear hHeld hK3
        generalize s.acked 0 [(j * m, j * m + m)] = t at HS HIS ⊢
        have HI2 := Lib.hid HIS.out.1
        clear HIS HI
        have hlk : (L.take k ++ L.drop (k + 1)).length + 1 = L.length := by rw [List.length_append, List.length_take, List.length_drop]; omega
        have hkc : (k : Int) ≤ (lc : Int) := by omega
        have hk1 : (k : Int) + 1 ≤ (L.length : Int) := by omega
        have hlcc : (L.length : Int) ≤ (lc : Int) := by omega
        go_upto_region 13 with fail
        go_cut [9] (fun lv wx => OwnI wx N lv (L.take k ++ L.drop (k + 1)) ∧ Below y4.heap.size y4 wx)
        case first =>
          have hLsz : L.length ≤ 4 := by omega
          have HKW := Lib.hid (show IntKind.i64.wrap ((k : Int) + 1) = ((k + 1 : Nat) : Int) by rw [IntWalk.i64_in _ (by omega)]; omega)
          have hkk : (((k + 1 : Nat) : Int)) ≤ (L.length : Int) := by omega
          have hkn : k ≤ L.length := by omega
          have hkn2 : k ≤ lc := by omega
          have hk0i : (0 : Int) ≤ (k : Int) + 1 := by omega
          have hk1n : k + 1 ≤ L.length := by omega
          by_cases hk0 : k = 0
          · have HK0 := Lib.hid hk0
            clear hk0
            by_cases hz : k + 1 = L.length
            · have HZ0 := Lib.hid (show L.length - (k + 1) = 0 by omega)
              have HZ := Lib.hid hz
              clear hz
              by_cases hcc : lc = k + 1
              · subst hcc
                have hkx : (k : Int) ≤ (k : Int) + 1 := by omega
                have hkx2 : k ≤ k + 1 := by omega
                refine wp_region_held_drew (S := (fun W : World => True)) (by kernel_rfl) (trivial) (fun hHeld => ?_)
                have HCD := Lib.hid (show ∀ i (hi : i < L.length), y4.drew.cell? ⟨lg, i, none⟩ = some (.int .i64 L[i]) from HCE.out)
                have HBD := Lib.hid (show Below y4.heap.size y4 y4.drew from (Below.refl _ _).drew)
                have hND : N ≤ y4.drew.heap.size := hNz
                have hLD : lg < y4.drew.heap.size := hlgs
                have hy4 : y4.heap.size ≤ y4.drew.heap.size := Nat.le_refl _
                have hy5 : y4.drew.heap.size ≤ y4.heap.size := Nat.le_refl _
                generalize y4.drew = y5 at HCD HBD hND hLD hy4 hy5 ⊢
                refine wpAnyH_take (i := 0) (v := ?_) (by simp only [List.getElem?_toArray, List.getElem?_cons_zero]; rfl) (by kernel_rfl) (by kernel_rfl) (by kernel_rfl) (by exact fun _ _ _ h => h) (Or.inl ⟨by rfl, ?_⟩) (by assumption) ?_
                rotate_left 1
                · intro w hSw; skip; go_simp; (try with_reducible rfl)
                (try simp only [Act.put, List.setIfInBounds_toArray, List.set_cons_zero, List.set_cons_succ])
                refine wpAnyH_take (i := 1) (v := ?_) (by simp only [List.getElem?_toArray, List.getElem?_cons_succ, List.getElem?_cons_zero]; rfl) (by kernel_rfl) (by kernel_rfl) (by kernel_rfl) (by exact fun _ _ _ h => h) (Or.inl ⟨by rfl, ?_⟩) (by assumption) ?_
                rotate_left 1
                · intro w hSw; skip; go_simp; (try with_reducible rfl)
                (try simp only [Act.put, List.setIfInBounds_toArray, List.set_cons_zero, List.set_cons_succ])
                refine wpAnyH_take (i := 2) (v := ?_) (by simp only [List.getElem?_toArray, List.getElem?_cons_succ, List.getElem?_cons_zero]; rfl) (by kernel_rfl) (by kernel_rfl) (by kernel_rfl) (by exact fun _ _ _ h => h) (Or.inl ⟨by rfl, ?_⟩) (by assumption) ?_
                rotate_left 1
                · intro w hSw; skip; go_simp; (try with_reducible rfl)
                (try simp only [Act.put, List.setIfInBounds_toArray, List.set_cons_zero, List.set_cons_succ])
                refine wpAnyH_take (i := 4) (v := ?_) (by simp only [List.getElem?_toArray, List.getElem?_cons_succ, List.getElem?_cons_zero]; rfl) (by kernel_rfl) (by kernel_rfl) (by kernel_rfl) (by exact fun _ _ _ h => h) (Or.inl ⟨by rfl, ?_⟩) (by assumption) ?_
                rotate_left 1
                · intro w hSw; skip; go_simp; (try with_reducible rfl)
                (try simp only [Act.put, List.setIfInBounds_toArray, List.set_cons_zero, List.set_cons_succ])
                refine wpAnyH_take (i := 5) (v := ?_) (by simp only [List.getElem?_toArray, List.getElem?_cons_succ, List.getElem?_cons_zero]; rfl) (by kernel_rfl) (by kernel_rfl) (by kernel_rfl) (by exact fun _ _ _ h => h) (Or.inl ⟨by rfl, ?_⟩) (by assumption) ?_
                rotate_left 1
                · intro w hSw; skip; go_simp; (try with_reducible rfl)
                (try simp only [Act.put, List.setIfInBounds_toArray, List.set_cons_zero, List.set_cons_succ])
                refine wpAnyH_take (i := 6) (v := ?_) (by simp only [List.getElem?_toArray, List.getElem?_cons_succ, List.getElem?_cons_zero]; rfl) (by kernel_rfl) (by kernel_rfl) (by kernel_rfl) (by exact fun _ _ _ h => h) (Or.inl ⟨by rfl, ?_⟩) (by assumption) ?_
                rotate_left 1
                · intro w hSw; skip; go_simp; (try with_reducible rfl)
                (try simp only [Act.put, List.setIfInBounds_toArray, List.set_cons_zero, List.set_cons_succ])
                rw [HKW.out]
                refine wpAnyH_take (i := 7) (v := ?_) (by simp only [List.getElem?_toArray, List.getElem?_cons_succ, List.getElem?_cons_zero]; rfl) (by kernel_rfl) (by kernel_rfl) (by kernel_rfl) (by exact fun _ _ _ h => h) (Or.inl ⟨by rfl, ?_⟩) (by assumption) ?_
                rotate_left 1
                · intro w hSw; skip; go_simp; (try with_reducible rfl)
                (try simp only [Act.put, List.setIfInBounds_toArray, List.set_cons_zero, List.set_cons_succ])
                refine wpAnyH_ready (rs := [3]) (by kernel_rfl) (by simp) ?_
                refine AllReadyH.cons (by simp only [List.getElem?_toArray, List.getElem?_cons_succ, List.getElem?_cons_zero]; rfl) (fun Kq hKq => ?_) AllReadyH.nil
                refine step_append_ints0 rfl _ _ rfl y5.heap.size (.slice none 0 0) [] (by rfl) (OwnI.nil _ _) (some ⟨lg, 0, none⟩) (k + 1) (by show Value.slice (some ⟨lg, 0, none⟩) k (k + 1) = _; rw [HK0.out]) ?_
                have HO6 := Lib.hid (show OwnI y5 y5.heap.size (.slice none 0 0) [] from OwnI.nil _ _)
                have HC6 := HCD
                have HB6 := HBD
                have h56 : y5.heap.size ≤ y5.heap.size := Nat.le_refl _
                refine hKq.out _ _ (trivial) (fun hHeld2 => ?_)
                clear hKq Kq hHeld
                (try simp only [Act.put, List.setIfInBounds_toArray, List.set_cons_zero, List.set_cons_succ])
                have hHeld := hHeld2
                clear hHeld2
                refine wpAnyH_ready (rs := [8]) (by kernel_rfl) (by simp) ?_
                refine AllReadyH.cons (by simp only [List.getElem?_toArray, List.getElem?_cons_succ, List.getElem?_cons_zero]; rfl) (fun Kq hKq => ?_) AllReadyH.nil
                refine step_append_ints0 rfl _ _ rfl y5.heap.size (.slice none 0 0) [] (by rfl) HO6.out _ _ (by first | rfl | (show Value.slice _ (L.length - (k + 1)) _ = Value.slice _ 0 _; rw [HZ0.out])) ?_
                refine hKq.out _ _ (trivial) (fun hHeld2 => ?_)
                clear hKq Kq hHeld
                (try simp only [Act.put, List.setIfInBounds_toArray, List.set_cons_zero, List.set_cons_succ])
                have hHeld := hHeld2
                clear hHeld2
                refine wpAnyH_take (i := 9) (v := ?_) (by simp only [List.getElem?_toArray, List.getElem?_cons_succ, List.getElem?_cons_zero]; rfl) (by kernel_rfl) (by kernel_rfl) (by kernel_rfl) (by exact fun _ _ _ h => h) (Or.inl ⟨by rfl, ?_⟩) (by assumption) ?_
                rotate_left 1
                · intro w hSw; skip; go_simp; (try with_reducible rfl)
                (try simp only [Act.put, List.setIfInBounds_toArray, List.set_cons_zero, List.set_cons_succ])
                refine wpAnyH_done (by kernel_rfl) ?_ _
                clear hHeld
                go_wp2_with fail
                go_meet
                case rel => exact ⟨by rw [List.drop_eq_nil_of_le (show L.length ≤ k + 1 by have := HZ.out; omega), List.append_nil, show L.take k = [] by rw [HK0.out]; rfl]; exact HO6.out.mono (by omega), HB6.out⟩
              · refine wp_region_held_drew (S := (fun W : World => True)) (by kernel_rfl) (trivial) (fun hHeld => ?_)
                have HCD := Lib.hid (show ∀ i (hi : i < L.length), y4.drew.cell? ⟨lg, i, none⟩ = some (.int .i64 L[i]) from HCE.out)
                have HBD := Lib.hid (show Below y4.heap.size y4 y4.drew from (Below.refl _ _).drew)
                have hND : N ≤ y4.drew.heap.size := hNz
                have hLD : lg < y4.drew.heap.size := hlgs
                have hy4 : y4.heap.size ≤ y4.drew.heap.size := Nat.le_refl _
                have hy5 : y4.drew.heap.size ≤ y4.heap.size := Nat.le_refl _
                generalize y4.drew = y5 at HCD HBD hND hLD hy4 hy5 ⊢
                refine wpAnyH_take (i := 0) (v := ?_) (by simp only [List.getElem?_toArray, List.getElem?_cons_zero]; rfl) (by kernel_rfl) (by kernel_rfl) (by kernel_rfl) (by exact fun _ _ _ h => h) (Or.inl ⟨by rfl, ?_⟩) (by assumption) ?_
                rotate_left 1
                · intro w hSw; skip; go_simp; (try with_reducible rfl)
                (try simp only [Act.put, List.setIfInBounds_toArray, List.set_cons_zero, List.set_cons_succ])
                refine wpAnyH_take (i := 1) (v := ?_) (by simp only [List.getElem?_toArray, List.getElem?_cons_succ, List.getElem?_cons_zero]; rfl) (by kernel_rfl) (by kernel_rfl) (by kernel_rfl) (by exact fun _ _ _ h => h) (Or.inl ⟨by rfl, ?_⟩) (by assumption) ?_
                rotate_left 1
                · intro w hSw; skip; go_simp; (try with_reducible rfl)
                (try simp only [Act.put, List.setIfInBounds_toArray, List.set_cons_zero, List.set_cons_succ])
                refine wpAnyH_take (i := 2) (v := ?_) (by simp only [List.getElem?_toArray, List.getElem?_cons_succ, List.getElem?_cons_zero]; rfl) (by kernel_rfl) (by kernel_rfl) (by kernel_rfl) (by exact fun _ _ _ h => h) (Or.inl ⟨by rfl, ?_⟩) (by assumption) ?_
                rotate_left 1
                · intro w hSw; skip; go_simp; (try with_reducible rfl)
                (try simp only [Act.put, List.setIfInBounds_toArray, List.set_cons_zero, List.set_cons_succ])
                refine wpAnyH_take (i := 4) (v := ?_) (by simp only [List.getElem?_toArray, List.getElem?_cons_succ, List.getElem?_cons_zero]; rfl) (by kernel_rfl) (by kernel_rfl) (by kernel_rfl) (by exact fun _ _ _ h => h) (Or.inl ⟨by rfl, ?_⟩) (by assumption) ?_
                rotate_left 1
                · intro w hSw; skip; go_simp; (try with_reducible rfl)
                (try simp only [Act.put, List.setIfInBounds_toArray, List.set_cons_zero, List.set_cons_succ])
                refine wpAnyH_take (i := 5) (v := ?_) (by simp only [List.getElem?_toArray, List.getElem?_cons_succ, List.getElem?_cons_zero]; rfl) (by kernel_rfl) (by kernel_rfl) (by kernel_rfl) (by exact fun _ _ _ h => h) (Or.inl ⟨by rfl, ?_⟩) (by assumption) ?_
                rotate_left 1
                · intro w hSw; skip; go_simp; (try with_reducible rfl)
                (try simp only [Act.put, List.setIfInBounds_toArray, List.set_cons_zero, List.set_cons_succ])
                refine wpAnyH_take (i := 6) (v := ?_) (by simp only [List.getElem?_toArray, List.getElem?_cons_succ, List.getElem?_cons_zero]; rfl) (by kernel_rfl) (by kernel_rfl) (by kernel_rfl) (by exact fun _ _ _ h => h) (Or.inl ⟨by rfl, ?_⟩) (by assumption) ?_
                rotate_left 1
                · intro w hSw; skip; go_simp; (try with_reducible rfl)
                (try simp only [Act.put, List.setIfInBounds_toArray, List.set_cons_zero, List.set_cons_succ])
                rw [HKW.out]
                refine wpAnyH_take (i := 7) (v := ?_) (by simp only [List.getElem?_toArray, List.getElem?_cons_succ, List.getElem?_cons_zero]; rfl) (by kernel_rfl) (by kernel_rfl) (by kernel_rfl) (by exact fun _ _ _ h => h) (Or.inl ⟨by rfl, ?_⟩) (by assumption) ?_
                rotate_left 1
                · intro w hSw; skip; go_simp; (try with_reducible rfl)
                (try simp only [Act.put, List.setIfInBounds_toArray, List.set_cons_zero, List.set_cons_succ])
                refine wpAnyH_ready (rs := [3]) (by kernel_rfl) (by simp) ?_
                refine AllReadyH.cons (by simp only [List.getElem?_toArray, List.getElem?_cons_succ, List.getElem?_cons_zero]; rfl) (fun Kq hKq => ?_) AllReadyH.nil
                refine step_append_ints0 rfl _ _ rfl y5.heap.size (.slice none 0 0) [] (by rfl) (OwnI.nil _ _) (some ⟨lg, 0, none⟩) lc (by show Value.slice (some ⟨lg, 0, none⟩) k lc = _; rw [HK0.out]) ?_
                have HO6 := Lib.hid (show OwnI y5 y5.heap.size (.slice none 0 0) [] from OwnI.nil _ _)
                have HC6 := HCD
                have HB6 := HBD
                have h56 : y5.heap.size ≤ y5.heap.size := Nat.le_refl _
                refine hKq.out _ _ (trivial) (fun hHeld2 => ?_)
                clear hKq Kq hHeld
                (try simp only [Act.put, List.setIfInBounds_toArray, List.set_cons_zero, List.set_cons_succ])
                have hHeld := hHeld2
                clear hHeld2
                refine wpAnyH_ready (rs := [8]) (by kernel_rfl) (by simp) ?_
                refine AllReadyH.cons (by simp only [List.getElem?_toArray, List.getElem?_cons_succ, List.getElem?_cons_zero]; rfl) (fun Kq hKq => ?_) AllReadyH.nil
                refine step_append_ints0 rfl _ _ rfl y5.heap.size (.slice none 0 0) [] (by rfl) HO6.out _ _ (by first | rfl | (show Value.slice _ (L.length - (k + 1)) _ = Value.slice _ 0 _; rw [HZ0.out])) ?_
                refine hKq.out _ _ (trivial) (fun hHeld2 => ?_)
                clear hKq Kq hHeld
                (try simp only [Act.put, List.setIfInBounds_toArray, List.set_cons_zero, List.set_cons_succ])
                have hHeld := hHeld2
                clear hHeld2
                refine wpAnyH_take (i := 9) (v := ?_) (by simp only [List.getElem?_toArray, List.getElem?_cons_succ, List.getElem?_cons_zero]; rfl) (by kernel_rfl) (by kernel_rfl) (by kernel_rfl) (by exact fun _ _ _ h => h) (Or.inl ⟨by rfl, ?_⟩) (by assumption) ?_
                rotate_left 1
                · intro w hSw; skip; go_simp; (try with_reducible rfl)
                (try simp only [Act.put, List.setIfInBounds_toArray, List.set_cons_zero, List.set_cons_succ])
                refine wpAnyH_done (by kernel_rfl) ?_ _
                clear hHeld
                go_wp2_with fail
                go_meet
                case rel => exact ⟨by rw [List.drop_eq_nil_of_le (show L.length ≤ k + 1 by have := HZ.out; omega), List.append_nil, show L.take k = [] by rw [HK0.out]; rfl]; exact HO6.out.mono (by omega), HB6.out⟩
            · have hcc : ¬ lc = k + 1 := by omega
              refine wp_region_held_drew (S := (fun W : World => True)) (by kernel_rfl) (trivial) (fun hHeld => ?_)
              have HCD := Lib.hid (show ∀ i (hi : i < L.length), y4.drew.cell? ⟨lg, i, none⟩ = some (.int .i64 L[i]) from HCE.out)
              have HBD := Lib.hid (show Below y4.heap.size y4 y4.drew from (Below.refl _ _).drew)
              have hND : N ≤ y4.drew.heap.size := hNz
              have hLD : lg < y4.drew.heap.size := hlgs
              have hy4 : y4.heap.size ≤ y4.drew.heap.size := Nat.le_refl _
              have hy5 : y4.drew.heap.size ≤ y4.heap.size := Nat.le_refl _
              generalize y4.drew = y5 at HCD HBD hND hLD hy4 hy5 ⊢
              refine wpAnyH_take (i := 0) (v := ?_) (by simp only [List.getElem?_toArray, List.getElem?_cons_zero]; rfl) (by kernel_rfl) (by kernel_rfl) (by kernel_rfl) (by exact fun _ _ _ h => h) (Or.inl ⟨by rfl, ?_⟩) (by assumption) ?_
              rotate_left 1
              · intro w hSw; skip; go_simp; (try with_reducible rfl)
              (try simp only [Act.put, List.setIfInBounds_toArray, List.set_cons_zero, List.set_cons_succ])
              refine wpAnyH_take (i := 1) (v := ?_) (by simp only [List.getElem?_toArray, List.getElem?_cons_succ, List.getElem?_cons_zero]; rfl) (by kernel_rfl) (by kernel_rfl) (by kernel_rfl) (by exact fun _ _ _ h => h) (Or.inl ⟨by rfl, ?_⟩) (by assumption) ?_
              rotate_left 1
              · intro w hSw; skip; go_simp; (try with_reducible rfl)
              (try simp only [Act.put, List.setIfInBounds_toArray, List.set_cons_zero, List.set_cons_succ])
              refine wpAnyH_take (i := 2) (v := ?_) (by simp only [List.getElem?_toArray, List.getElem?_cons_succ, List.getElem?_cons_zero]; rfl) (by kernel_rfl) (by kernel_rfl) (by kernel_rfl) (by exact fun _ _ _ h => h) (Or.inl ⟨by rfl, ?_⟩) (by assumption) ?_
              rotate_left 1
              · intro w hSw; skip; go_simp; (try with_reducible rfl)
              (try simp only [Act.put, List.setIfInBounds_toArray, List.set_cons_zero, List.set_cons_succ])
              refine wpAnyH_take (i := 4) (v := ?_) (by simp only [List.getElem?_toArray, List.getElem?_cons_succ, List.getElem?_cons_zero]; rfl) (by kernel_rfl) (by kernel_rfl) (by kernel_rfl) (by exact fun _ _ _ h => h) (Or.inl ⟨by rfl, ?_⟩) (by assumption) ?_
              rotate_left 1
              · intro w hSw; skip; go_simp; (try with_reducible rfl)
              (try simp only [Act.put, List.setIfInBounds_toArray, List.set_cons_zero, List.set_cons_succ])
              refine wpAnyH_take (i := 5) (v := ?_) (by simp only [List.getElem?_toArray, List.getElem?_cons_succ, List.getElem?_cons_zero]; rfl) (by kernel_rfl) (by kernel_rfl) (by kernel_rfl) (by exact fun _ _ _ h => h) (Or.inl ⟨by rfl, ?_⟩) (by assumption) ?_
              rotate_left 1
              · intro w hSw; skip; go_simp; (try with_reducible rfl)
              (try simp only [Act.put, List.setIfInBounds_toArray, List.set_cons_zero, List.set_cons_succ])
              refine wpAnyH_take (i := 6) (v := ?_) (by simp only [List.getElem?_toArray, List.getElem?_cons_succ, List.getElem?_cons_zero]; rfl) (by kernel_rfl) (by kernel_rfl) (by kernel_rfl) (by exact fun _ _ _ h => h) (Or.inl ⟨by rfl, ?_⟩) (by assumption) ?_
              rotate_left 1
              · intro w hSw; skip; go_simp; (try with_reducible rfl)
              (try simp only [Act.put, List.setIfInBounds_toArray, List.set_cons_zero, List.set_cons_succ])
              rw [HKW.out]
              refine wpAnyH_take (i := 7) (v := ?_) (by simp only [List.getElem?_toArray, List.getElem?_cons_succ, List.getElem?_cons_zero]; rfl) (by kernel_rfl) (by kernel_rfl) (by kernel_rfl) (by exact fun _ _ _ h => h) (Or.inl ⟨by rfl, ?_⟩) (by assumption) ?_
              rotate_left 1
              · intro w hSw; skip; go_simp; (try with_reducible rfl)
              (try simp only [Act.put, List.setIfInBounds_toArray, List.set_cons_zero, List.set_cons_succ])
              refine wpAnyH_ready (rs := [3]) (by kernel_rfl) (by simp) ?_
              refine AllReadyH.cons (by simp only [List.getElem?_toArray, List.getElem?_cons_succ, List.getElem?_cons_zero]; rfl) (fun Kq hKq => ?_) AllReadyH.nil
              refine step_append_ints0 rfl _ _ rfl y5.heap.size (.slice none 0 0) [] (by rfl) (OwnI.nil _ _) (some ⟨lg, 0, none⟩) lc (by show Value.slice (some ⟨lg, 0, none⟩) k lc = _; rw [HK0.out]) ?_
              have HO6 := Lib.hid (show OwnI y5 y5.heap.size (.slice none 0 0) [] from OwnI.nil _ _)
              have HC6 := HCD
              have HB6 := HBD
              have h56 : y5.heap.size ≤ y5.heap.size := Nat.le_refl _
              refine hKq.out _ _ (trivial) (fun hHeld2 => ?_)
              clear hKq Kq hHeld
              (try simp only [Act.put, List.setIfInBounds_toArray, List.set_cons_zero, List.set_cons_succ])
              have hHeld := hHeld2
              clear hHeld2
              refine wpAnyH_ready (rs := [8]) (by kernel_rfl) (by simp) ?_
              refine AllReadyH.cons (by simp only [List.getElem?_toArray, List.getElem?_cons_succ, List.getElem?_cons_zero]; rfl) (fun Kq hKq => ?_) AllReadyH.nil
              refine step_append_ints rfl _ _ rfl y5.heap.size (.slice none 0 0) [] (by rfl) HO6.out (by simp; try omega) lg (k + 1) (lc - (k + 1)) (L.drop (k + 1)) (by rw [List.length_drop]; rfl) (fun i hi => by rw [List.length_drop] at hi; rw [List.getElem_drop]; exact HC6.out (k + 1 + i) (by omega)) (by rw [List.length_drop]; omega) h56 ?_
              intro v7 w7 ho7 hg7 hb7
              have HO7 := Lib.hid ho7
              have HB7 := Lib.hid (HB6.out.trans (grown_below hg7 (by have := HB6.out.size; omega) (fun q e => by have := (HO6.out.lt q e).1; omega)))
              clear ho7 hg7 hb7
              refine hKq.out _ _ (trivial) (fun hHeld2 => ?_)
              clear hKq Kq hHeld
              (try simp only [Act.put, List.setIfInBounds_toArray, List.set_cons_zero, List.set_cons_succ])
              have hHeld := hHeld2
              clear hHeld2
              refine wpAnyH_take (i := 9) (v := ?_) (by simp only [List.getElem?_toArray, List.getElem?_cons_succ, List.getElem?_cons_zero]; rfl) (by kernel_rfl) (by kernel_rfl) (by kernel_rfl) (by exact fun _ _ _ h => h) (Or.inl ⟨by rfl, ?_⟩) (by assumption) ?_
              rotate_left 1
              · intro w hSw; skip; go_simp; (try with_reducible rfl)
              (try simp only [Act.put, List.setIfInBounds_toArray, List.set_cons_zero, List.set_cons_succ])
              refine wpAnyH_done (by kernel_rfl) ?_ _
              clear hHeld
              go_wp2_with fail
              go_meet
              case rel => exact ⟨by rw [show L.take k = [] by rw [HK0.out]; rfl]; exact HO7.out.mono (by omega), HB7.out⟩
          · by_cases hz : k + 1 = L.length
            · have HZ0 := Lib.hid (show L.length - (k + 1) = 0 by omega)
              have HZ := Lib.hid hz
              clear hz
              by_cases hcc : lc = k + 1
              · subst hcc
                have hkx : (k : Int) ≤ (k : Int) + 1 := by omega
                have hkx2 : k ≤ k + 1 := by omega
                refine wp_region_held_drew (S := (fun W : World => True)) (by kernel_rfl) (trivial) (fun hHeld => ?_)
                have HCD := Lib.hid (show ∀ i (hi : i < L.length), y4.drew.cell? ⟨lg, i, none⟩ = some (.int .i64 L[i]) from HCE.out)
                have HBD := Lib.hid (show Below y4.heap.size y4 y4.drew from (Below.refl _ _).drew)
                have hND : N ≤ y4.drew.heap.size := hNz
                have hLD : lg < y4.drew.heap.size := hlgs
                have hy4 : y4.heap.size ≤ y4.drew.heap.size := Nat.le_refl _
                have hy5 : y4.drew.heap.size ≤ y4.heap.size := Nat.le_refl _
                generalize y4.drew = y5 at HCD HBD hND hLD hy4 hy5 ⊢
                refine wpAnyH_take (i := 0) (v := ?_) (by simp only [List.getElem?_toArray, List.getElem?_cons_zero]; rfl) (by kernel_rfl) (by kernel_rfl) (by kernel_rfl) (by exact fun _ _ _ h => h) (Or.inl ⟨by rfl, ?_⟩) (by assumption) ?_
                rotate_left 1
                · intro w hSw; skip; go_simp; (try with_reducible rfl)
                (try simp only [Act.put, List.setIfInBounds_toArray, List.set_cons_zero, List.set_cons_succ])
                refine wpAnyH_take (i := 1) (v := ?_) (by simp only [List.getElem?_toArray, List.getElem?_cons_succ, List.getElem?_cons_zero]; rfl) (by kernel_rfl) (by kernel_rfl) (by kernel_rfl) (by exact fun _ _ _ h => h) (Or.inl ⟨by rfl, ?_⟩) (by assumption) ?_
                rotate_left 1
                · intro w hSw; skip; go_simp; (try with_reducible rfl)
                (try simp only [Act.put, List.setIfInBounds_toArray, List.set_cons_zero, List.set_cons_succ])
                refine wpAnyH_take (i := 2) (v := ?_) (by simp only [List.getElem?_toArray, List.getElem?_cons_succ, List.getElem?_cons_zero]; rfl) (by kernel_rfl) (by kernel_rfl) (by kernel_rfl) (by exact fun _ _ _ h => h) (Or.inl ⟨by rfl, ?_⟩) (by assumption) ?_
                rotate_left 1
                · intro w hSw; skip; go_simp; (try with_reducible rfl)
                (try simp only [Act.put, List.setIfInBounds_toArray, List.set_cons_zero, List.set_cons_succ])
                refine wpAnyH_take (i := 4) (v := ?_) (by simp only [List.getElem?_toArray, List.getElem?_cons_succ, List.getElem?_cons_zero]; rfl) (by kernel_rfl) (by kernel_rfl) (by kernel_rfl) (by exact fun _ _ _ h => h) (Or.inl ⟨by rfl, ?_⟩) (by assumption) ?_
                rotate_left 1
                · intro w hSw; skip; go_simp; (try with_reducible rfl)
                (try simp only [Act.put, List.setIfInBounds_toArray, List.set_cons_zero, List.set_cons_succ])
                refine wpAnyH_take (i := 5) (v := ?_) (by simp only [List.getElem?_toArray, List.getElem?_cons_succ, List.getElem?_cons_zero]; rfl) (by kernel_rfl) (by kernel_rfl) (by kernel_rfl) (by exact fun _ _ _ h => h) (Or.inl ⟨by rfl, ?_⟩) (by assumption) ?_
                rotate_left 1
                · intro w hSw; skip; go_simp; (try with_reducible rfl)
                (try simp only [Act.put, List.setIfInBounds_toArray, List.set_cons_zero, List.set_cons_succ])
                refine wpAnyH_take (i := 6) (v := ?_) (by simp only [List.getElem?_toArray, List.getElem?_cons_succ, List.getElem?_cons_zero]; rfl) (by kernel_rfl) (by kernel_rfl) (by kernel_rfl) (by exact fun _ _ _ h => h) (Or.inl ⟨by rfl, ?_⟩) (by assumption) ?_
                rotate_left 1
                · intro w hSw; skip; go_simp; (try with_reducible rfl)
                (try simp only [Act.put, List.setIfInBounds_toArray, List.set_cons_zero, List.set_cons_succ])
                rw [HKW.out]
                refine wpAnyH_take (i := 7) (v := ?_) (by simp only [List.getElem?_toArray, List.getElem?_cons_succ, List.getElem?_cons_zero]; rfl) (by kernel_rfl) (by kernel_rfl) (by kernel_rfl) (by exact fun _ _ _ h => h) (Or.inl ⟨by rfl, ?_⟩) (by assumption) ?_
                rotate_left 1
                · intro w hSw; skip; go_simp; (try with_reducible rfl)
                (try simp only [Act.put, List.setIfInBounds_toArray, List.set_cons_zero, List.set_cons_succ])
                refine wpAnyH_ready (rs := [3]) (by kernel_rfl) (by simp) ?_
                refine AllReadyH.cons (by simp only [List.getElem?_toArray, List.getElem?_cons_succ, List.getElem?_cons_zero]; rfl) (fun Kq hKq => ?_) AllReadyH.nil
                refine step_append_ints rfl _ _ rfl y5.heap.size (.slice none 0 0) [] (by rfl) (OwnI.nil _ _) (by simp) lg 0 (k + 1) (L.take k) (by rw [List.length_take, show min k L.length = k by omega]; rfl) (fun i hi => by rw [List.length_take] at hi; rw [Nat.zero_add, List.getElem_take]; exact HCD.out i (by omega)) (by rw [List.length_take]; omega) (Nat.le_refl _) ?_
                intro v6 w6 ho6 hg6 hb6
                rw [List.nil_append] at ho6
                have HO6 := Lib.hid ho6
                have hb56 := grown_below hg6 (Nat.le_refl _) (fun q e => by cases e)
                have HC6 := Lib.hid (show ∀ i (hi : i < L.length), w6.cell? ⟨lg, i, none⟩ = some (.int .i64 L[i]) from fun i hi => cell_bel2 (HCD.out i hi) hLD hb56)
                have h56 := hb56.size
                have HB6 := Lib.hid (HBD.out.trans (hb56.mono hy4))
                clear ho6 hg6 hb6 hb56
                refine hKq.out _ _ (trivial) (fun hHeld2 => ?_)
                clear hKq Kq hHeld
                (try simp only [Act.put, List.setIfInBounds_toArray, List.set_cons_zero, List.set_cons_succ])
                have hHeld := hHeld2
                clear hHeld2
                refine wpAnyH_ready (rs := [8]) (by kernel_rfl) (by simp) ?_
                refine AllReadyH.cons (by simp only [List.getElem?_toArray, List.getElem?_cons_succ, List.getElem?_cons_zero]; rfl) (fun Kq hKq => ?_) AllReadyH.nil
                refine step_append_ints0 rfl _ _ rfl y5.heap.size v6 (L.take k) (by rfl) HO6.out _ _ (by first | rfl | (show Value.slice _ (L.length - (k + 1)) _ = Value.slice _ 0 _; rw [HZ0.out])) ?_
                refine hKq.out _ _ (trivial) (fun hHeld2 => ?_)
                clear hKq Kq hHeld
                (try simp only [Act.put, List.setIfInBounds_toArray, List.set_cons_zero, List.set_cons_succ])
                have hHeld := hHeld2
                clear hHeld2
                refine wpAnyH_take (i := 9) (v := ?_) (by simp only [List.getElem?_toArray, List.getElem?_cons_succ, List.getElem?_cons_zero]; rfl) (by kernel_rfl) (by kernel_rfl) (by kernel_rfl) (by exact fun _ _ _ h => h) (Or.inl ⟨by rfl, ?_⟩) (by assumption) ?_
                rotate_left 1
                · intro w hSw; skip; go_simp; (try with_reducible rfl)
                (try simp only [Act.put, List.setIfInBounds_toArray, List.set_cons_zero, List.set_cons_succ])
                refine wpAnyH_done (by kernel_rfl) ?_ _
                clear hHeld
                go_wp2_with fail
                go_meet
                case rel => exact ⟨by rw [List.drop_eq_nil_of_le (show L.length ≤ k + 1 by have := HZ.out; omega), List.append_nil]; exact HO6.out.mono (by omega), HB6.out⟩
              · refine wp_region_held_drew (S := (fun W : World => True)) (by kernel_rfl) (trivial) (fun hHeld => ?_)
                have HCD := Lib.hid (show ∀ i (hi : i < L.length), y4.drew.cell? ⟨lg, i, none⟩ = some (.int .i64 L[i]) from HCE.out)
                have HBD := Lib.hid (show Below y4.heap.size y4 y4.drew from (Below.refl _ _).drew)
                have hND : N ≤ y4.drew.heap.size := hNz
                have hLD : lg < y4.drew.heap.size := hlgs
                have hy4 : y4.heap.size ≤ y4.drew.heap.size := Nat.le_refl _
                have hy5 : y4.drew.heap.size ≤ y4.heap.size := Nat.le_refl _
                generalize y4.drew = y5 at HCD HBD hND hLD hy4 hy5 ⊢
                refine wpAnyH_take (i := 0) (v := ?_) (by simp only [List.getElem?_toArray, List.getElem?_cons_zero]; rfl) (by kernel_rfl) (by kernel_rfl) (by kernel_rfl) (by exact fun _ _ _ h => h) (Or.inl ⟨by rfl, ?_⟩) (by assumption) ?_
                rotate_left 1
                · intro w hSw; skip; go_simp; (try with_reducible rfl)
                (try simp only [Act.put, List.setIfInBounds_toArray, List.set_cons_zero, List.set_cons_succ])
                refine wpAnyH_take (i := 1) (v := ?_) (by simp only [List.getElem?_toArray, List.getElem?_cons_succ, List.getElem?_cons_zero]; rfl) (by kernel_rfl) (by kernel_rfl) (by kernel_rfl) (by exact fun _ _ _ h => h) (Or.inl ⟨by rfl, ?_⟩) (by assumption) ?_
                rotate_left 1
                · intro w hSw; skip; go_simp; (try with_reducible rfl)
                (try simp only [Act.put, List.setIfInBounds_toArray, List.set_cons_zero, List.set_cons_succ])
                refine wpAnyH_take (i := 2) (v := ?_) (by simp only [List.getElem?_toArray, List.getElem?_cons_succ, List.getElem?_cons_zero]; rfl) (by kernel_rfl) (by kernel_rfl) (by kernel_rfl) (by exact fun _ _ _ h => h) (Or.inl ⟨by rfl, ?_⟩) (by assumption) ?_
                rotate_left 1
                · intro w hSw; skip; go_simp; (try with_reducible rfl)
                (try simp only [Act.put, List.setIfInBounds_toArray, List.set_cons_zero, List.set_cons_succ])
                refine wpAnyH_take (i := 4) (v := ?_) (by simp only [List.getElem?_toArray, List.getElem?_cons_succ, List.getElem?_cons_zero]; rfl) (by kernel_rfl) (by kernel_rfl) (by kernel_rfl) (by exact fun _ _ _ h => h) (Or.inl ⟨by rfl, ?_⟩) (by assumption) ?_
                rotate_left 1
                · intro w hSw; skip; go_simp; (try with_reducible rfl)
                (try simp only [Act.put, List.setIfInBounds_toArray, List.set_cons_zero, List.set_cons_succ])
                refine wpAnyH_take (i := 5) (v := ?_) (by simp only [List.getElem?_toArray, List.getElem?_cons_succ, List.getElem?_cons_zero]; rfl) (by kernel_rfl) (by kernel_rfl) (by kernel_rfl) (by exact fun _ _ _ h => h) (Or.inl ⟨by rfl, ?_⟩) (by assumption) ?_
                rotate_left 1
                · intro w hSw; skip; go_simp; (try with_reducible rfl)
                (try simp only [Act.put, List.setIfInBounds_toArray, List.set_cons_zero, List.set_cons_succ])
                refine wpAnyH_take (i := 6) (v := ?_) (by simp only [List.getElem?_toArray, List.getElem?_cons_succ, List.getElem?_cons_zero]; rfl) (by kernel_rfl) (by kernel_rfl) (by kernel_rfl) (by exact fun _ _ _ h => h) (Or.inl ⟨by rfl, ?_⟩) (by assumption) ?_
                rotate_left 1
                · intro w hSw; skip; go_simp; (try with_reducible rfl)
                (try simp only [Act.put, List.setIfInBounds_toArray, List.set_cons_zero, List.set_cons_succ])
                rw [HKW.out]
                refine wpAnyH_take (i := 7) (v := ?_) (by simp only [List.getElem?_toArray, List.getElem?_cons_succ, List.getElem?_cons_zero]; rfl) (by kernel_rfl) (by kernel_rfl) (by kernel_rfl) (by exact fun _ _ _ h => h) (Or.inl ⟨by rfl, ?_⟩) (by assumption) ?_
                rotate_left 1
                · intro w hSw; skip; go_simp; (try with_reducible rfl)
                (try simp only [Act.put, List.setIfInBounds_toArray, List.set_cons_zero, List.set_cons_succ])
                refine wpAnyH_ready (rs := [3]) (by kernel_rfl) (by simp) ?_
                refine AllReadyH.cons (by simp only [List.getElem?_toArray, List.getElem?_cons_succ, List.getElem?_cons_zero]; rfl) (fun Kq hKq => ?_) AllReadyH.nil
                refine step_append_ints rfl _ _ rfl y5.heap.size (.slice none 0 0) [] (by rfl) (OwnI.nil _ _) (by simp) lg 0 lc (L.take k) (by rw [List.length_take, show min k L.length = k by omega]; rfl) (fun i hi => by rw [List.length_take] at hi; rw [Nat.zero_add, List.getElem_take]; exact HCD.out i (by omega)) (by rw [List.length_take]; omega) (Nat.le_refl _) ?_
                intro v6 w6 ho6 hg6 hb6
                rw [List.nil_append] at ho6
                have HO6 := Lib.hid ho6
                have hb56 := grown_below hg6 (Nat.le_refl _) (fun q e => by cases e)
                have HC6 := Lib.hid (show ∀ i (hi : i < L.length), w6.cell? ⟨lg, i, none⟩ = some (.int .i64 L[i]) from fun i hi => cell_bel2 (HCD.out i hi) hLD hb56)
                have h56 := hb56.size
                have HB6 := Lib.hid (HBD.out.trans (hb56.mono hy4))
                clear ho6 hg6 hb6 hb56
                refine hKq.out _ _ (trivial) (fun hHeld2 => ?_)
                clear hKq Kq hHeld
                (try simp only [Act.put, List.setIfInBounds_toArray, List.set_cons_zero, List.set_cons_succ])
                have hHeld := hHeld2
                clear hHeld2
                refine wpAnyH_ready (rs := [8]) (by kernel_rfl) (by simp) ?_
                refine AllReadyH.cons (by simp only [List.getElem?_toArray, List.getElem?_cons_succ, List.getElem?_cons_zero]; rfl) (fun Kq hKq => ?_) AllReadyH.nil
                refine step_append_ints0 rfl _ _ rfl y5.heap.size v6 (L.take k) (by rfl) HO6.out _ _ (by first | rfl | (show Value.slice _ (L.length - (k + 1)) _ = Value.slice _ 0 _; rw [HZ0.out])) ?_
                refine hKq.out _ _ (trivial) (fun hHeld2 => ?_)
                clear hKq Kq hHeld
                (try simp only [Act.put, List.setIfInBounds_toArray, List.set_cons_zero, List.set_cons_succ])
                have hHeld := hHeld2
                clear hHeld2
                refine wpAnyH_take (i := 9) (v := ?_) (by simp only [List.getElem?_toArray, List.getElem?_cons_succ, List.getElem?_cons_zero]; rfl) (by kernel_rfl) (by kernel_rfl) (by kernel_rfl) (by exact fun _ _ _ h => h) (Or.inl ⟨by rfl, ?_⟩) (by assumption) ?_
                rotate_left 1
                · intro w hSw; skip; go_simp; (try with_reducible rfl)
                (try simp only [Act.put, List.setIfInBounds_toArray, List.set_cons_zero, List.set_cons_succ])
                refine wpAnyH_done (by kernel_rfl) ?_ _
                clear hHeld
                go_wp2_with fail
                go_meet
                case rel => exact ⟨by rw [List.drop_eq_nil_of_le (show L.length ≤ k + 1 by have := HZ.out; omega), List.append_nil]; exact HO6.out.mono (by omega), HB6.out⟩
            · have hcc : ¬ lc = k + 1 := by omega
              refine wp_region_held_drew (S := (fun W : World => True)) (by kernel_rfl) (trivial) (fun hHeld => ?_)
              have HCD := Lib.hid (show ∀ i (hi : i < L.length), y4.drew.cell? ⟨lg, i, none⟩ = some (.int .i64 L[i]) from HCE.out)
              have HBD := Lib.hid (show Below y4.heap.size y4 y4.drew from (Below.refl _ _).drew)
              have hND : N ≤ y4.drew.heap.size := hNz
              have hLD : lg < y4.drew.heap.size := hlgs
              have hy4 : y4.heap.size ≤ y4.drew.heap.size := Nat.le_refl _
              have hy5 : y4.drew.heap.size ≤ y4.heap.size := Nat.le_refl _
              generalize y4.drew = y5 at HCD HBD hND hLD hy4 hy5 ⊢
              refine wpAnyH_take (i := 0) (v := ?_) (by simp only [List.getElem?_toArray, List.getElem?_cons_zero]; rfl) (by kernel_rfl) (by kernel_rfl) (by kernel_rfl) (by exact fun _ _ _ h => h) (Or.inl ⟨by rfl, ?_⟩) (by assumption) ?_
              rotate_left 1
              · intro w hSw; skip; go_simp; (try with_reducible rfl)
              (try simp only [Act.put, List.setIfInBounds_toArray, List.set_cons_zero, List.set_cons_succ])
              refine wpAnyH_take (i := 1) (v := ?_) (by simp only [List.getElem?_toArray, List.getElem?_cons_succ, List.getElem?_cons_zero]; rfl) (by kernel_rfl) (by kernel_rfl) (by kernel_rfl) (by exact fun _ _ _ h => h) (Or.inl ⟨by rfl, ?_⟩) (by assumption) ?_
              rotate_left 1
              · intro w hSw; skip; go_simp; (try with_reducible rfl)
              (try simp only [Act.put, List.setIfInBounds_toArray, List.set_cons_zero, List.set_cons_succ])
              refine wpAnyH_take (i := 2) (v := ?_) (by simp only [List.getElem?_toArray, List.getElem?_cons_succ, List.getElem?_cons_zero]; rfl) (by kernel_rfl) (by kernel_rfl) (by kernel_rfl) (by exact fun _ _ _ h => h) (Or.inl ⟨by rfl, ?_⟩) (by assumption) ?_
              rotate_left 1
              · intro w hSw; skip; go_simp; (try with_reducible rfl)
              (try simp only [Act.put, List.setIfInBounds_toArray, List.set_cons_zero, List.set_cons_succ])
              refine wpAnyH_take (i := 4) (v := ?_) (by simp only [List.getElem?_toArray, List.getElem?_cons_succ, List.getElem?_cons_zero]; rfl) (by kernel_rfl) (by kernel_rfl) (by kernel_rfl) (by exact fun _ _ _ h => h) (Or.inl ⟨by rfl, ?_⟩) (by assumption) ?_
              rotate_left 1
              · intro w hSw; skip; go_simp; (try with_reducible rfl)
              (try simp only [Act.put, List.setIfInBounds_toArray, List.set_cons_zero, List.set_cons_succ])
              refine wpAnyH_take (i := 5) (v := ?_) (by simp only [List.getElem?_toArray, List.getElem?_cons_succ, List.getElem?_cons_zero]; rfl) (by kernel_rfl) (by kernel_rfl) (by kernel_rfl) (by exact fun _ _ _ h => h) (Or.inl ⟨by rfl, ?_⟩) (by assumption) ?_
              rotate_left 1
              · intro w hSw; skip; go_simp; (try with_reducible rfl)
              (try simp only [Act.put, List.setIfInBounds_toArray, List.set_cons_zero, List.set_cons_succ])
              refine wpAnyH_take (i := 6) (v := ?_) (by simp only [List.getElem?_toArray, List.getElem?_cons_succ, List.getElem?_cons_zero]; rfl) (by kernel_rfl) (by kernel_rfl) (by kernel_rfl) (by exact fun _ _ _ h => h) (Or.inl ⟨by rfl, ?_⟩) (by assumption) ?_
              rotate_left 1
              · intro w hSw; skip; go_simp; (try with_reducible rfl)
              (try simp only [Act.put, List.setIfInBounds_toArray, List.set_cons_zero, List.set_cons_succ])
              rw [HKW.out]
              refine wpAnyH_take (i := 7) (v := ?_) (by simp only [List.getElem?_toArray, List.getElem?_cons_succ, List.getElem?_cons_zero]; rfl) (by kernel_rfl) (by kernel_rfl) (by kernel_rfl) (by exact fun _ _ _ h => h) (Or.inl ⟨by rfl, ?_⟩) (by assumption) ?_
              rotate_left 1
              · intro w hSw; skip; go_simp; (try with_reducible rfl)
              (try simp only [Act.put, List.setIfInBounds_toArray, List.set_cons_zero, List.set_cons_succ])
              refine wpAnyH_ready (rs := [3]) (by kernel_rfl) (by simp) ?_
              refine AllReadyH.cons (by simp only [List.getElem?_toArray, List.getElem?_cons_succ, List.getElem?_cons_zero]; rfl) (fun Kq hKq => ?_) AllReadyH.nil
              refine step_append_ints rfl _ _ rfl y5.heap.size (.slice none 0 0) [] (by rfl) (OwnI.nil _ _) (by simp) lg 0 lc (L.take k) (by rw [List.length_take, show min k L.length = k by omega]; rfl) (fun i hi => by rw [List.length_take] at hi; rw [Nat.zero_add, List.getElem_take]; exact HCD.out i (by omega)) (by rw [List.length_take]; omega) (Nat.le_refl _) ?_
              intro v6 w6 ho6 hg6 hb6
              rw [List.nil_append] at ho6
              have HO6 := Lib.hid ho6
              have hb56 := grown_below hg6 (Nat.le_refl _) (fun q e => by cases e)
              have HC6 := Lib.hid (show ∀ i (hi : i < L.length), w6.cell? ⟨lg, i, none⟩ = some (.int .i64 L[i]) from fun i hi => cell_bel2 (HCD.out i hi) hLD hb56)
              have h56 := hb56.size
              have HB6 := Lib.hid (HBD.out.trans (hb56.mono hy4))
              clear ho6 hg6 hb6 hb56
              refine hKq.out _ _ (trivial) (fun hHeld2 => ?_)
              clear hKq Kq hHeld
              (try simp only [Act.put, List.setIfInBounds_toArray, List.set_cons_zero, List.set_cons_succ])
              have hHeld := hHeld2
              clear hHeld2
              refine wpAnyH_ready (rs := [8]) (by kernel_rfl) (by simp) ?_
              refine AllReadyH.cons (by simp only [List.getElem?_toArray, List.getElem?_cons_succ, List.getElem?_cons_zero]; rfl) (fun Kq hKq => ?_) AllReadyH.nil
              refine step_append_ints rfl _ _ rfl y5.heap.size v6 (L.take k) (by rfl) HO6.out (by simp; try omega) lg (k + 1) (lc - (k + 1)) (L.drop (k + 1)) (by rw [List.length_drop]; rfl) (fun i hi => by rw [List.length_drop] at hi; rw [List.getElem_drop]; exact HC6.out (k + 1 + i) (by omega)) (by rw [List.length_drop]; omega) h56 ?_
              intro v7 w7 ho7 hg7 hb7
              have HO7 := Lib.hid ho7
              have HB7 := Lib.hid (HB6.out.trans (grown_below hg7 (by have := HB6.out.size; omega) (fun q e => by have := (HO6.out.lt q e).1; omega)))
              clear ho7 hg7 hb7
              refine hKq.out _ _ (trivial) (fun hHeld2 => ?_)
              clear hKq Kq hHeld
              (try simp only [Act.put, List.setIfInBounds_toArray, List.set_cons_zero, List.set_cons_succ])
              have hHeld := hHeld2
              clear hHeld2
              refine wpAnyH_take (i := 9) (v := ?_) (by simp only [List.getElem?_toArray, List.getElem?_cons_succ, List.getElem?_cons_zero]; rfl) (by kernel_rfl) (by kernel_rfl) (by kernel_rfl) (by exact fun _ _ _ h => h) (Or.inl ⟨by rfl, ?_⟩) (by assumption) ?_
              rotate_left 1
              · intro w hSw; skip; go_simp; (try with_reducible rfl)
              (try simp only [Act.put, List.setIfInBounds_toArray, List.set_cons_zero, List.set_cons_succ])
              refine wpAnyH_done (by kernel_rfl) ?_ _
              clear hHeld
              go_wp2_with fail
              go_meet
              case rel => exact ⟨HO7.out.mono (by omega), HB7.out⟩
        case rest =>
          obtain ⟨ho, hb⟩ := hcut
          have HOC := Lib.hid ho
          replace HS := Lib.hid (HS.out.below hb)
          replace HB := Lib.hid (HB.out.trans (hb.mono HB.out.size))
          have hNc : N ≤ wc.heap.size := Nat.le_trans hNz hb.size
          clear ho hb HO HCE hNz hlgs
          generalize L.take k ++ L.drop (k + 1) = L2 at HOC HI2 hlk
          go_wp2_with fail
          refine (sclost_any Bs _ t m wc HI2.out.ok HS.out).mono ?_
          rintro e z1 ⟨vl, rfl, hO, hb⟩
          replace HS := Lib.hid (HS.out.below hb)
          replace HB := Lib.hid (HB.out.trans (hb.mono HB.out.size))
          replace HOC := Lib.hid (HOC.out.bel hb)
          replace hNc := Nat.le_trans hNc hb.size
          clear hb
          have HLC := Lib.hid (canonF_len (lost_spec HI2.out.ok hm1).1)
          by_cases h2 : L2.length ≤ 1
          · obtain ⟨t2, RR, hel, hmt⟩ := HI2.out.many hm1 h2
            rw [hel] at hO HLC
            have hi2 : (2 : Int) ≤ (i : Int) := by omega
            obtain ⟨la, lcc, rfl, hsp, -, -⟩ := hO.at HLC.out
            obtain ⟨lb9, lo9, rfl, hlb9, hcc9⟩ := hsp.cells (by simp)
            obtain ⟨q0, q1⟩ := hcc9 0 (by simp)
            simp only [List.getElem_cons_zero, Nat.zero_mul, Nat.add_zero] at q0 q1
            have hlp : (0 : Int) < ((((0, t2) :: RR : List Sp).length : Nat) : Int) := by simp
            clear hO hsp hcc9 hel
            generalize ((0, t2) :: RR : List Sp).length = LN at hlp ⊢
            go_wp2_with fail
            go_roundg (gk - 1)
            case measure => omega
            case rel => exact ⟨i + 1, L2, t, by go_num, by omega, by omega, HOC.out, HI2.out, HS.out, HB.out, hNc⟩
          · have hi2 : ¬ (2 : Int) ≤ (i : Int) := by omega
            rw [HI2.out.few hm1 (by omega)] at hO
            obtain ⟨la, lcc, rfl, -⟩ := hO.val
            clear hO
            go_wp2_with fail
            go_roundg (gk - 1)
            case measure => omega
            case rel => exact ⟨i + 1, L2, t, by go_num, by omega, by omega, HOC.out, HI2.out, HS.out, HB.out, hNc⟩
    · obtain rfl : i = 4 := by omega
      obtain rfl : L = [] := List.eq_nil_of_length_eq_zero (by omega)
      have HLA := Lib.hid (HI.out.last hm1)
      go_wp2_with fail
      refine (sclost_any Bs _ s m wr HI.out.ok HS.out).mono ?_
      rintro e z1 ⟨vl, rfl, hO, hb⟩
      rw [HLA.out.1] at hO
      obtain ⟨la, lc, rfl, hsp, -, -⟩ := hO.at (by simp)
      have HSP := Lib.hid hsp
      replace HS := Lib.hid (HS.out.below hb)
      replace HB := Lib.hid (HB.out.trans (hb.mono HB.out.size))
      clear hO hsp hb
      go_wp2_with fail
      have hb := rcBel z1 (.cells #[.int .i64 0, .int .i64 m] 51)
      have hq : SpAt (z1.alloc (.cells #[.int .i64 0, .int .i64 m] 51)) (z1.alloc (.cells #[.int .i64 0, .int .i64 m] 51)).heap.size (some ⟨z1.heap.size, 0, none⟩) [(0, m)] := spat_one z1 0 m
      have hsp : SpAt (z1.alloc (.cells #[.int .i64 0, .int .i64 m] 51)) (z1.alloc (.cells #[.int .i64 0, .int .i64 m] 51)).heap.size la [(0, m)] := (HSP.out.below hb).mono hb.size
      have HQ := Lib.hid hq
      have HSP2 := Lib.hid hsp
      replace HS := Lib.hid (HS.out.below hb)
      replace HB := Lib.hid (HB.out.trans (hb.mono HB.out.size))
      clear hq hsp hb HSP
      generalize z1.heap.size = M at HQ ⊢
      generalize z1.alloc (.cells #[.int .i64 0, .int .i64 m] 51) = z2 at HS HB HQ HSP2 ⊢
      refine (rsame_any z2 z2.heap.size la _ lc 1 [(0, m)] [(0, m)] HSP2.out HQ.out (Nat.le_refl _)).mono ?_
      rintro e z3 ⟨rfl, hb⟩
      replace HS := Lib.hid (HS.out.below hb)
      replace HB := Lib.hid (HB.out.trans (hb.mono HB.out.size))
      clear hb HQ HSP2
      rw [decide_eq_true (show ([(0, m)] : List Sp) = [(0, m)] from rfl)]
      go_wp2_with fail
      refine (scpipe_any Bs _ s m _ HI.out.ok HS.out).mono ?_
      rintro e z4 ⟨rfl, hb⟩
      replace HB := Lib.hid (HB.out.trans (hb.mono HB.out.size))
      clear hb
      rw [HLA.out.2]
      go_wp2_with fail
      go_ret
      exact ⟨rfl, HB.out⟩
end Go.Proofs.Ytncjeleabpodaaa
