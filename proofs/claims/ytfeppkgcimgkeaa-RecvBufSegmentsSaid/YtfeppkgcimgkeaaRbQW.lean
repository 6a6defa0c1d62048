/- RecvBufSegments: the law's walk. -/
import Derived.Test.YtfeppkgcimgkeaaRbQ
import Derived.Test.YtfeppkgcimgkeaaRbSane
import Derived.Test.YtfeppkgcimgkeaaRbCalls
import Derived.Deep.RegionHeld3
import Derived.Deep.CutBlock
import Derived.Deep.DeepCutAuto
import Derived.Deep.LoopGhost
namespace Go.Proofs.Ytfeppkgcimgkeaa
open Go.RowKit Go.Shelf
theorem app_list (a b : ByteArray) : (a ++ b).data.toList = a.data.toList ++ b.data.toList := by simp
theorem SgC.chg2 {X B R : Nat} {v0 v1 v2 v3 v4 v5 v6 v7 v8 v9 v10 v11 v12 : Value} {w w' : World} (h : SgC X v0 v1 v2 v3 v4 v5 v6 v7 v8 v9 v10 v11 v12 w) (hc : Chg2 B R w w') (hB : X ≠ B) (hR : X ≠ R) : SgC X v0 v1 v2 v3 v4 v5 v6 v7 v8 v9 v10 v11 v12 w' := by
  have k : ∀ i v, At X i v w → At X i v w' := fun i v hv => by
    have hb := hc.block X hv.lt hB hR
    exact ⟨(World.cell?_of_block (a := ⟨X, i, none⟩) hb).trans hv.1, (World.frozen?_of_block (a := ⟨X, i, none⟩) hb).trans hv.2⟩
  exact ⟨k _ _ h.c0, k _ _ h.c1, k _ _ h.c2, k _ _ h.c3, k _ _ h.c4, k _ _ h.c5, k _ _ h.c6, k _ _ h.c7, k _ _ h.c8, k _ _ h.c9, k _ _ h.c10, k _ _ h.c11, k _ _ h.c12⟩
set_option maxRecDepth 100000 in
set_option maxHeartbeats 8000000 in
theorem walk_RecvBufSegments (w : World) (seed : Int) (hs0 : (Lit.int .i64 seed).wf = true) (first : Int) (hf0 : (Lit.int .i64 first).wf = true) (a : Option Addr) (len cap : Nat) (cs : Nat → Cl) (hcs : IsCalls w a len cs) :
    Calls Try.prog 9 #[.int .i64 seed, .int .i64 first, .slice a len cap] w fun e w' => e = .returned (.bool true) ∧ Below w.heap.size w w' := by
  have bs := bounds_i64 hs0
  have bf := bounds_i64 hf0
  clear hs0 hf0
  have hlen := hcs.1
  unfold maxLen at hlen
  have HCS := Lib.hid hcs.2
  clear hcs
  obtain ⟨r, hr⟩ : ∃ r, r = pickV first 80 := ⟨_, rfl⟩
  have hrb := pickV_bd first 80 (by omega)
  rw [← hr] at hrb
  obtain ⟨hr1, hr2⟩ := hrb
  have HPK := Lib.hid (show ∀ W, Calls Try.prog 20 #[.int .i64 first, .int .i64 80] W fun e w' => e = .returned (.int .i64 r) ∧ W = w' from fun W => by rw [hr]; exact pick_any first 80 W bf.1 bf.2 (by omega) (by omega))
  clear hr
  obtain ⟨S, hS⟩ : ∃ S, S = strL (pickV seed 251) 80 := ⟨_, rfl⟩
  have hSl : S.length = 80 := by rw [hS, strL_length]
  have HSt := Lib.hid (show ∀ w0 : World, Calls Try.prog 19 #[.int .i64 seed, .int .i64 80] w0 fun e w' => e = .returned (.string ⟨S.toArray⟩) ∧ Below w0.heap.size w0 w' from fun w0 => by rw [hS]; exact stream_any seed 80 w0 bs.1 bs.2 (by omega) (by omega))
  obtain ⟨sB, hsB⟩ : ∃ sB : ByteArray, sB = ⟨S.toArray⟩ := ⟨_, rfl⟩
  rw [← hsB] at HSt
  have hsz : sB.size = 80 := by rw [hsB]; show S.toArray.size = 80; simpa using hSl
  have HSB := Lib.hid (show sB.data.toList = S by rw [hsB])
  have HSL := Lib.hid hSl
  have hsz1 : sB.size ≤ 80 := by omega
  have hsz2 : 80 ≤ sB.size := by omega
  clear hS hsB hSl hsz bs bf
  go_enter Try.func9, Try.ntmps9
  go_wp2_with fail
  refine (sanity_any _).mono ?_
  rintro e v0 ⟨rfl, hb0⟩
  have HB := Lib.hid hb0
  clear hb0
  go_wp2_with fail
  refine (HSt.out _).mono ?_
  rintro e v01 ⟨rfl, hb⟩
  replace HB := Lib.hid (HB.out.trans (hb.mono HB.out.size))
  clear hb
  go_wp2_with fail
  refine (seqadd_any first 0 _).mono ?_
  rintro e w9 ⟨rfl, rfl⟩
  generalize addV first 0 = p0
  go_upto_if 31 with fail
  go_cut [9] (fun s9 wx => ∃ p : Int, s9 = .int .i64 p ∧ wx = v01)
  case first =>
    go_wp2_with fail
    · refine (HPK.out _).mono ?_
      rintro e w9 ⟨rfl, rfl⟩
      go_wp2_with fail
      refine (seqadd_any _ 0 _).mono ?_
      rintro e w9 ⟨rfl, rfl⟩
      go_wp2_with fail
      go_meet
      case rel => exact ⟨_, rfl, rfl⟩
    · go_meet
      case rel => exact ⟨_, rfl, rfl⟩
  case rest =>
    obtain ⟨p, rfl, rfl⟩ := hcut
    clear HPK HSt
    go_wp2_with fail
    refine (new_box 80 (by omega) (by omega) _).mono ?_
    rintro e v1 ⟨B, R, rfl, hbox, hb, hB, hR⟩
    have hsB := HB.out.size
    obtain ⟨M, hM⟩ : ∃ M, M = v1.heap.size := ⟨_, rfl⟩
    have hBM : B < M := by rw [hM]; exact (hbox 0).lt.1
    have hRM : R < M := by rw [hM]; exact (hbox 0).lt.2
    have hwB : w.heap.size ≤ B := by omega
    have hwR : w.heap.size ≤ R := by omega
    have hwM : w.heap.size ≤ M := by omega
    have HL := Lib.hid (show SgL w M B R p sB [] (.slice none 0 0) v1 from ⟨OwnQ.nil _ _, hbox M, HB.out.trans (hb.mono HB.out.size), by rw [hM]; exact Nat.le_refl _, fun x hx => by cases hx⟩)
    clear hbox hb hB hR hsB hM HB
    go_upto_block 0 with fail
    go_cut [13] (fun lv wx => ∃ P, P.length ≤ 20 ∧ SgL w M B R p sB P lv wx)
    case first =>
      go_wp2_with fail
      go_loopg [13, 14] 20 (fun g lv iv wr => ∃ (i : Nat) (P : List (Nat × Nat)), iv = .int .i64 (i : Int) ∧ g + i = 20 ∧ P.length = i ∧ SgL w M B R p sB P lv wr)
      case atStart => exact ⟨0, [], rfl, rfl, rfl, HL.out⟩
      case round =>
        clear HL
        obtain ⟨i, P, rfl, hg, hP, hL⟩ := hrel
        have HL := Lib.hid hL
        have HP := Lib.hid hP
        clear hL hP
        by_cases h1 : i < len
        · by_cases h2 : i < 20
          · obtain ⟨cb, co, rfl, hcl, hca⟩ := HCS.out (by omega)
            have HCA := Lib.hid (show ∀ W, Below w.heap.size w W → Cl.At W cb (co + i * 4) (cs i) from fun W hW => (hca i h1).below hW hcl)
            generalize cs i = c at HCA
            obtain ⟨kd, of, st, n⟩ := c
            obtain ⟨c0, c1, c2, c3, ⟨k1, k2⟩, hof, hst, hn⟩ := HCA.out _ HL.out.below
            dsimp only at c0 c1 c2 c3 k1 k2 hof hst hn
            clear hca c0 c2 k1 k2 hst
            go_wp2_with fail
            refine (pick_any of 80 _ hof.1 hof.2 (by omega) (by omega)).mono ?_
            rintro e w9 ⟨rfl, rfl⟩
            have fb := pickV_bd of 80 (by omega)
            generalize pickV of 80 = f at fb ⊢
            obtain ⟨fb1, fb2⟩ := fb
            obtain ⟨F, rfl⟩ := Int.eq_ofNat_of_zero_le fb1
            go_wp2_with fail
            refine wp_region_held_drew (S := (fun W : World => W.cell? ⟨cb, co + i * 4 + 3, none⟩ = some (.int .i64 n))) (by kernel_rfl) (c3) (fun hHeld => ?_)
            replace HL := Lib.hid HL.out.drew
            obtain ⟨v2, hv2⟩ : ∃ v2, v2 = wr.drew := ⟨_, rfl⟩
            rw [← hv2] at HL hHeld ⊢
            clear hv2 c3 c1
            refine wpAnyH_take (i := 0) (v := ?_) (by simp only [List.getElem?_toArray, List.getElem?_cons_zero]; rfl) (by kernel_rfl) (by kernel_rfl) (by kernel_rfl) (by exact fun _ _ _ h => h) (Or.inl ⟨by rfl, ?_⟩) (by assumption) ?_
            rotate_left 1
            · intro w hSw; (try dsimp only at hSw); go_simp; (try with_reducible rfl)
            (try simp only [Act.put, List.setIfInBounds_toArray, List.set_cons_zero, List.set_cons_succ])
            refine wpAnyH_take (i := 1) (v := ?_) (by simp only [List.getElem?_toArray, List.getElem?_cons_succ, List.getElem?_cons_zero]; rfl) (by kernel_rfl) (by kernel_rfl) (by kernel_rfl) (by exact fun _ _ _ h => h) (Or.inl ⟨by rfl, ?_⟩) (by assumption) ?_
            rotate_left 1
            · intro w hSw; (try dsimp only at hSw); go_simp; (try with_reducible rfl)
            (try simp only [Act.put, List.setIfInBounds_toArray, List.set_cons_zero, List.set_cons_succ])
            refine wpAnyH_take (i := 2) (v := ?_) (by simp only [List.getElem?_toArray, List.getElem?_cons_succ, List.getElem?_cons_zero]; rfl) (by kernel_rfl) (by kernel_rfl) (by kernel_rfl) (by exact fun _ _ _ h => h) (Or.inl ⟨by rfl, ?_⟩) (by assumption) ?_
            rotate_left 1
            · intro w hSw; (try dsimp only at hSw); go_simp; (try with_reducible rfl)
            (try simp only [Act.put, List.setIfInBounds_toArray, List.set_cons_zero, List.set_cons_succ])
            refine wpAnyH_take (i := 5) (v := ?_) (by simp only [List.getElem?_toArray, List.getElem?_cons_succ, List.getElem?_cons_zero]; rfl) (by kernel_rfl) (by kernel_rfl) (by kernel_rfl) (by exact fun _ _ _ h => h) (Or.inl ⟨by rfl, ?_⟩) (by assumption) ?_
            rotate_left 1
            · intro w hSw; (try dsimp only at hSw); go_simp; (try with_reducible rfl)
            (try simp only [Act.put, List.setIfInBounds_toArray, List.set_cons_zero, List.set_cons_succ])
            refine wpAnyH_take (i := 6) (v := ?_) (by simp only [List.getElem?_toArray, List.getElem?_cons_succ, List.getElem?_cons_zero]; rfl) (by kernel_rfl) (by kernel_rfl) (by kernel_rfl) (by exact fun _ _ _ h => h) (Or.inl ⟨by rfl, ?_⟩) (by assumption) ?_
            rotate_left 1
            · intro w hSw; (try dsimp only at hSw); go_simp; (try with_reducible rfl)
            (try simp only [Act.put, List.setIfInBounds_toArray, List.set_cons_zero, List.set_cons_succ])
            refine wpAnyH_take (i := 7) (v := ?_) (by simp only [List.getElem?_toArray, List.getElem?_cons_succ, List.getElem?_cons_zero]; rfl) (by kernel_rfl) (by kernel_rfl) (by kernel_rfl) (by exact fun _ _ _ h => h) (Or.inl ⟨by rfl, ?_⟩) (by assumption) ?_
            rotate_left 1
            · intro w hSw; (try dsimp only at hSw); go_simp; (try with_reducible rfl)
            (try simp only [Act.put, List.setIfInBounds_toArray, List.set_cons_zero, List.set_cons_succ])
            refine wpAnyH_take (i := 9) (v := ?_) (by simp only [List.getElem?_toArray, List.getElem?_cons_succ, List.getElem?_cons_zero]; rfl) (by kernel_rfl) (by kernel_rfl) (by kernel_rfl) (by exact fun _ _ _ h => h) (Or.inl ⟨by rfl, ?_⟩) (by assumption) ?_
            rotate_left 1
            · intro w hSw; (try dsimp only at hSw); go_simp; (try with_reducible rfl)
            (try simp only [Act.put, List.setIfInBounds_toArray, List.set_cons_zero, List.set_cons_succ])
            refine wpAnyH_take (i := 10) (v := ?_) (by simp only [List.getElem?_toArray, List.getElem?_cons_succ, List.getElem?_cons_zero]; rfl) (by kernel_rfl) (by kernel_rfl) (by kernel_rfl) (by exact fun _ _ _ h => h) (Or.inl ⟨by rfl, ?_⟩) (by assumption) ?_
            rotate_left 1
            · intro w hSw; (try dsimp only at hSw); go_simp; (try with_reducible rfl)
            (try simp only [Act.put, List.setIfInBounds_toArray, List.set_cons_zero, List.set_cons_succ])
            refine wpAnyH_take (i := 3) (v := ?_) (by simp only [List.getElem?_toArray, List.getElem?_cons_succ, List.getElem?_cons_zero]; rfl) (by kernel_rfl) (by kernel_rfl) (by kernel_rfl) (by exact fun _ _ _ h => h) (Or.inl ⟨by rfl, ?_⟩) (by assumption) ?_
            rotate_left 1
            · intro w hSw; (try dsimp only at hSw); go_simp; (try with_reducible rfl)
            (try simp only [Act.put, List.setIfInBounds_toArray, List.set_cons_zero, List.set_cons_succ])
            refine wpAnyH_take (i := 8) (v := ?_) (by simp only [List.getElem?_toArray, List.getElem?_cons_succ, List.getElem?_cons_zero]; rfl) (by kernel_rfl) (by kernel_rfl) (by kernel_rfl) (by exact fun _ _ _ h => h) (Or.inl ⟨by rfl, ?_⟩) (by assumption) ?_
            rotate_left 1
            · intro w hSw; (try dsimp only at hSw); go_simp; (try with_reducible rfl)
            (try simp only [Act.put, List.setIfInBounds_toArray, List.set_cons_zero, List.set_cons_succ])
            refine wpAnyH_take (i := 11) (v := ?_) (by simp only [List.getElem?_toArray, List.getElem?_cons_succ, List.getElem?_cons_zero]; rfl) (by kernel_rfl) (by kernel_rfl) (by kernel_rfl) (by exact fun _ _ _ h => h) (Or.inl ⟨by rfl, ?_⟩) (by assumption) ?_
            rotate_left 1
            · intro w hSw; (try dsimp only at hSw); go_simp; (try with_reducible rfl)
            (try simp only [Act.put, List.setIfInBounds_toArray, List.set_cons_zero, List.set_cons_succ])
            refine wpAnyH_take (i := 12) (v := ?_) (by simp only [List.getElem?_toArray, List.getElem?_cons_succ, List.getElem?_cons_zero]; rfl) (by kernel_rfl) (by kernel_rfl) (by kernel_rfl) (by exact fun _ _ _ h => h) (Or.inl ⟨by rfl, ?_⟩) (by assumption) ?_
            rotate_left 1
            · intro w hSw; (try dsimp only at hSw); go_simp; (try with_reducible rfl)
            (try simp only [Act.put, List.setIfInBounds_toArray, List.set_cons_zero, List.set_cons_succ])
            refine wpAnyH_take (i := 13) (v := ?_) (by simp only [List.getElem?_toArray, List.getElem?_cons_succ, List.getElem?_cons_zero]; rfl) (by kernel_rfl) (by kernel_rfl) (by kernel_rfl) (by exact fun _ _ _ h => h) (Or.inl ⟨by rfl, ?_⟩) (by assumption) ?_
            rotate_left 1
            · intro w hSw; (try dsimp only at hSw); go_simp; (try with_reducible rfl)
            (try simp only [Act.put, List.setIfInBounds_toArray, List.set_cons_zero, List.set_cons_succ])
            have HW1 := Lib.hid (show IntKind.i64.wrap (1 + (F : Int)) = 1 + (F : Int) from IntWalk.i64_in _ (by omega))
            have HW2 := Lib.hid (show IntKind.i64.wrap ((F : Int) + 1) = (F : Int) + 1 from IntWalk.i64_in _ (by omega))
            rw [HW1.out, HW2.out]
            refine wpAnyH_ready (rs := [4]) (by kernel_rfl) (by simp) ?_
            refine AllReadyH.cons (by simp only [List.getElem?_toArray, List.getElem?_cons_succ, List.getElem?_cons_zero]; rfl) (fun Kq hKq => ?_) AllReadyH.nil
            go_simp
            refine (seqadd_any p (1 + (F : Int)) _).mono ?_
            rintro e w9 ⟨rfl, rfl⟩
            go_simp
            refine hKq.out _ _ (hHeld) (fun hHeld2 => ?_)
            clear hKq Kq hHeld
            (try simp only [Act.put, List.setIfInBounds_toArray, List.set_cons_zero, List.set_cons_succ])
            have hHeld := hHeld2
            clear hHeld2
            refine wpAnyH_ready (rs := [14]) (by kernel_rfl) (by simp) ?_
            refine AllReadyH.cons (by simp only [List.getElem?_toArray, List.getElem?_cons_succ, List.getElem?_cons_zero]; rfl) (fun Kq hKq => ?_) AllReadyH.nil
            go_simp
            refine (pick_any n 20 _ hn.1 hn.2 (by omega) (by omega)).mono ?_
            rintro e w9 ⟨rfl, rfl⟩
            have qb := pickV_bd n 20 (by omega)
            generalize pickV n 20 = q at qb ⊢
            obtain ⟨qb1, qb2⟩ := qb
            obtain ⟨Q, rfl⟩ := Int.eq_ofNat_of_zero_le qb1
            obtain ⟨T, hT⟩ : ∃ T : Nat, T = min (F + 1 + Q) 80 := ⟨_, rfl⟩
            have hmin : min ((F : Int) + 1 + (Q : Int)) 80 = (T : Int) := by omega
            have t1 : F ≤ T := by omega
            have t2 : T ≤ 80 := by omega
            clear hT
            go_simp
            refine hKq.out _ _ (hHeld) (fun hHeld2 => ?_)
            clear hKq Kq hHeld
            (try simp only [Act.put, List.setIfInBounds_toArray, List.set_cons_zero, List.set_cons_succ])
            have hHeld := hHeld2
            clear hHeld2
            have HW3 := Lib.hid (show IntKind.i64.wrap ((F : Int) + 1 + (Q : Int)) = (F : Int) + 1 + (Q : Int) from IntWalk.i64_in _ (by omega))
            have HMI := Lib.hid hmin
            clear hmin
            have t3 : T ≤ sB.size := by omega
            refine wpAnyH_take (i := 15) (v := ?_) (by simp only [List.getElem?_toArray, List.getElem?_cons_succ, List.getElem?_cons_zero]; rfl) (by kernel_rfl) (by kernel_rfl) (by kernel_rfl) (by exact fun _ _ _ h => h) (Or.inl ⟨by rfl, ?_⟩) (by assumption) ?_
            rotate_left 1
            · intro w hSw; (try dsimp only at hSw); go_simp; (try with_reducible rfl)
            (try simp only [Act.put, List.setIfInBounds_toArray, List.set_cons_zero, List.set_cons_succ])
            rw [HW3.out]
            refine wpAnyH_take (i := 16) (v := ?_) (by simp only [List.getElem?_toArray, List.getElem?_cons_succ, List.getElem?_cons_zero]; rfl) (by kernel_rfl) (by kernel_rfl) (by kernel_rfl) (by exact fun _ _ _ h => h) (Or.inl ⟨by rfl, ?_⟩) (by assumption) ?_
            rotate_left 1
            · intro w hSw; (try dsimp only at hSw); go_simp; (try with_reducible rfl)
            (try simp only [Act.put, List.setIfInBounds_toArray, List.set_cons_zero, List.set_cons_succ])
            rw [HMI.out]
            refine wpAnyH_take (i := 17) (v := ?_) (by simp only [List.getElem?_toArray, List.getElem?_cons_succ, List.getElem?_cons_zero]; rfl) (by kernel_rfl) (by kernel_rfl) (by kernel_rfl) (by exact fun _ _ _ h => h) (Or.inl ⟨by rfl, ?_⟩) (by assumption) ?_
            rotate_left 1
            · intro w hSw; (try dsimp only at hSw); go_simp; (try with_reducible rfl)
            (try simp only [Act.put, List.setIfInBounds_toArray, List.set_cons_zero, List.set_cons_succ])
            refine wpAnyH_take (i := 18) (v := ?_) (by simp only [List.getElem?_toArray, List.getElem?_cons_succ, List.getElem?_cons_zero]; rfl) (by kernel_rfl) (by kernel_rfl) (by kernel_rfl) (by exact fun _ _ _ h => h) (Or.inl ⟨by rfl, ?_⟩) (by assumption) ?_
            rotate_left 1
            · intro w hSw; (try dsimp only at hSw); go_simp; (try with_reducible rfl)
            (try simp only [Act.put, List.setIfInBounds_toArray, List.set_cons_zero, List.set_cons_succ])
            refine wpAnyH_ready (rs := [19]) (by kernel_rfl) (by simp) ?_
            refine AllReadyH.cons (by simp only [List.getElem?_toArray, List.getElem?_cons_succ, List.getElem?_cons_zero]; rfl) (fun Kq hKq => ?_) AllReadyH.nil
            go_simp
            have hb := sgBel v2 (.cells #[.int .i64 1, .int .i64 2, .int .i64 (addV p (1 + (F : Int))), .int .i64 0, .bool false, .bool false, .bool false, .bool false, .int .i64 0, .int .i64 0, .bool false, .slice none 0 0, .string (sB.extract F T)] 57)
            have hblk : (v2.alloc (.cells #[.int .i64 1, .int .i64 2, .int .i64 (addV p (1 + (F : Int))), .int .i64 0, .bool false, .bool false, .bool false, .bool false, .int .i64 0, .int .i64 0, .bool false, .slice none 0 0, .string (sB.extract F T)] 57)).heap[v2.heap.size]? = some (.cells (rowV (mkQ p sB (F, T))).toArray 57 (0, 0)) := heap_alloc_new _ _
            replace HL := Lib.hid (HL.out.to hb)
            have hHeld3 := (hb.cell (p := ⟨cb, co + i * 4 + 3, none⟩) (block_lt_of_cell hHeld)).trans hHeld
            generalize v2.alloc (.cells #[.int .i64 1, .int .i64 2, .int .i64 (addV p (1 + (F : Int))), .int .i64 0, .bool false, .bool false, .bool false, .bool false, .int .i64 0, .int .i64 0, .bool false, .slice none 0 0, .string (sB.extract F T)] 57) = v3 at HL hblk hHeld3 ⊢
            clear hb
            refine hKq.out _ _ (hHeld3) (fun hHeld2 => ?_)
            clear hKq Kq hHeld hHeld3
            (try simp only [Act.put, List.setIfInBounds_toArray, List.set_cons_zero, List.set_cons_succ])
            have hHeld := hHeld2
            clear hHeld2
            refine wpAnyH_ready (rs := [20]) (by kernel_rfl) (by simp) ?_
            refine AllReadyH.cons (by simp only [List.getElem?_toArray, List.getElem?_cons_succ, List.getElem?_cons_zero]; rfl) (fun Kq hKq => ?_) AllReadyH.nil
            refine step_append_seg rfl _ _ rfl M _ (P.map (mkQ p sB)) (by rfl) HL.out.own (by rw [List.length_map]; rw [HP.out]; omega) v2.heap.size (mkQ p sB (F, T)) (by rfl) 57 (0, 0) hblk HL.out.size ?_
            intro v' v4 ho hg4 _
            replace HL := Lib.hid (HL.out.app hwM hBM hRM (x := (F, T)) ⟨by dsimp only; omega, by dsimp only; omega⟩ ho hg4)
            refine hKq.out _ _ ((HCA.out _ HL.out.below).2.2.2.1) (fun hHeld2 => ?_)
            clear hKq Kq hHeld hg4 ho hblk
            (try simp only [Act.put, List.setIfInBounds_toArray, List.set_cons_zero, List.set_cons_succ])
            have hHeld := hHeld2
            clear hHeld2
            refine wpAnyH_take (i := 21) (v := ?_) (by simp only [List.getElem?_toArray, List.getElem?_cons_succ, List.getElem?_cons_zero]; rfl) (by kernel_rfl) (by kernel_rfl) (by kernel_rfl) (by exact fun _ _ _ h => h) (Or.inl ⟨by rfl, ?_⟩) (by assumption) ?_
            rotate_left 1
            · intro w hSw; (try dsimp only at hSw); go_simp; (try with_reducible rfl)
            (try simp only [Act.put, List.setIfInBounds_toArray, List.set_cons_zero, List.set_cons_succ])
            refine wpAnyH_done (by kernel_rfl) ?_ _
            clear hHeld
            go_wp2_with fail
            go_roundg (gk - 1)
            case measure => omega
            case rel => exact ⟨i + 1, P ++ [(F, T)], by go_num, by omega, by rw [List.length_append, HP.out]; rfl, HL.out⟩
          · go_wp2_with fail
            go_meet
            case rel => exact ⟨P, by rw [HP.out]; omega, HL.out⟩
        · go_wp2_with fail
          go_meet
          case rel => exact ⟨P, by rw [HP.out]; omega, HL.out⟩
    case rest =>
      clear HL HCS
      obtain ⟨P, hP, hL⟩ := hcut
      have HL := Lib.hid hL
      clear hL
      go_upto_block 2 with fail
      go_cut [13] (fun lv wx => SgL w M B R p sB (P ++ five) lv wx)
      case first =>
        go_wp2_with fail
        go_loopg [13, 16] 5 (fun g lv iv wr => ∃ (j f : Nat), f = 16 * j ∧ iv = .int .i64 (f : Int) ∧ g + j = 5 ∧ SgL w M B R p sB (P ++ five.take j) lv wr)
        case atStart => exact ⟨0, 0, rfl, rfl, rfl, by rw [List.take_zero, List.append_nil]; exact HL.out⟩
        case round =>
          clear HL
          obtain ⟨j, f, hf, rfl, hg, hL⟩ := hrel
          have HL := Lib.hid hL
          have HF := Lib.hid hf
          clear hL
          by_cases h1 : j < 5
          · have h80 : f < 80 := by omega
            have h64 : f ≤ 64 := by omega
            have hT : (f : Int) + 16 = ((f + 16 : Nat) : Int) := by omega
            obtain ⟨T, hT2⟩ : ∃ T, T = f + 16 := ⟨_, rfl⟩
            rw [← hT2] at hT
            have HTT := Lib.hid hT
            clear hT
            have t1 : f ≤ T := by omega
            have t2 : T ≤ 80 := by omega
            have t3 : T ≤ sB.size := by omega
            have HT2 := Lib.hid hT2
            clear hf hT2
            go_wp2_with fail
            refine wp_region_held_drew (S := (fun _ : World => True)) (by kernel_rfl) (trivial) (fun hHeld => ?_)
            replace HL := Lib.hid HL.out.drew
            obtain ⟨v2, hv2⟩ : ∃ v2, v2 = wr.drew := ⟨_, rfl⟩
            rw [← hv2] at HL ⊢
            clear hv2
            refine wpAnyH_take (i := 0) (v := ?_) (by simp only [List.getElem?_toArray, List.getElem?_cons_zero]; rfl) (by kernel_rfl) (by kernel_rfl) (by kernel_rfl) (by exact fun _ _ _ h => h) (Or.inl ⟨by rfl, ?_⟩) (by assumption) ?_
            rotate_left 1
            · intro w hSw; (try dsimp only at hSw); go_simp; (try with_reducible rfl)
            (try simp only [Act.put, List.setIfInBounds_toArray, List.set_cons_zero, List.set_cons_succ])
            refine wpAnyH_take (i := 1) (v := ?_) (by simp only [List.getElem?_toArray, List.getElem?_cons_succ, List.getElem?_cons_zero]; rfl) (by kernel_rfl) (by kernel_rfl) (by kernel_rfl) (by exact fun _ _ _ h => h) (Or.inl ⟨by rfl, ?_⟩) (by assumption) ?_
            rotate_left 1
            · intro w hSw; (try dsimp only at hSw); go_simp; (try with_reducible rfl)
            (try simp only [Act.put, List.setIfInBounds_toArray, List.set_cons_zero, List.set_cons_succ])
            refine wpAnyH_take (i := 2) (v := ?_) (by simp only [List.getElem?_toArray, List.getElem?_cons_succ, List.getElem?_cons_zero]; rfl) (by kernel_rfl) (by kernel_rfl) (by kernel_rfl) (by exact fun _ _ _ h => h) (Or.inl ⟨by rfl, ?_⟩) (by assumption) ?_
            rotate_left 1
            · intro w hSw; (try dsimp only at hSw); go_simp; (try with_reducible rfl)
            (try simp only [Act.put, List.setIfInBounds_toArray, List.set_cons_zero, List.set_cons_succ])
            refine wpAnyH_take (i := 5) (v := ?_) (by simp only [List.getElem?_toArray, List.getElem?_cons_succ, List.getElem?_cons_zero]; rfl) (by kernel_rfl) (by kernel_rfl) (by kernel_rfl) (by exact fun _ _ _ h => h) (Or.inl ⟨by rfl, ?_⟩) (by assumption) ?_
            rotate_left 1
            · intro w hSw; (try dsimp only at hSw); go_simp; (try with_reducible rfl)
            (try simp only [Act.put, List.setIfInBounds_toArray, List.set_cons_zero, List.set_cons_succ])
            refine wpAnyH_take (i := 6) (v := ?_) (by simp only [List.getElem?_toArray, List.getElem?_cons_succ, List.getElem?_cons_zero]; rfl) (by kernel_rfl) (by kernel_rfl) (by kernel_rfl) (by exact fun _ _ _ h => h) (Or.inl ⟨by rfl, ?_⟩) (by assumption) ?_
            rotate_left 1
            · intro w hSw; (try dsimp only at hSw); go_simp; (try with_reducible rfl)
            (try simp only [Act.put, List.setIfInBounds_toArray, List.set_cons_zero, List.set_cons_succ])
            refine wpAnyH_take (i := 7) (v := ?_) (by simp only [List.getElem?_toArray, List.getElem?_cons_succ, List.getElem?_cons_zero]; rfl) (by kernel_rfl) (by kernel_rfl) (by kernel_rfl) (by exact fun _ _ _ h => h) (Or.inl ⟨by rfl, ?_⟩) (by assumption) ?_
            rotate_left 1
            · intro w hSw; (try dsimp only at hSw); go_simp; (try with_reducible rfl)
            (try simp only [Act.put, List.setIfInBounds_toArray, List.set_cons_zero, List.set_cons_succ])
            refine wpAnyH_take (i := 3) (v := ?_) (by simp only [List.getElem?_toArray, List.getElem?_cons_succ, List.getElem?_cons_zero]; rfl) (by kernel_rfl) (by kernel_rfl) (by kernel_rfl) (by exact fun _ _ _ h => h) (Or.inl ⟨by rfl, ?_⟩) (by assumption) ?_
            rotate_left 1
            · intro w hSw; (try dsimp only at hSw); go_simp; (try with_reducible rfl)
            (try simp only [Act.put, List.setIfInBounds_toArray, List.set_cons_zero, List.set_cons_succ])
            refine wpAnyH_take (i := 8) (v := ?_) (by simp only [List.getElem?_toArray, List.getElem?_cons_succ, List.getElem?_cons_zero]; rfl) (by kernel_rfl) (by kernel_rfl) (by kernel_rfl) (by exact fun _ _ _ h => h) (Or.inl ⟨by rfl, ?_⟩) (by assumption) ?_
            rotate_left 1
            · intro w hSw; (try dsimp only at hSw); go_simp; (try with_reducible rfl)
            (try simp only [Act.put, List.setIfInBounds_toArray, List.set_cons_zero, List.set_cons_succ])
            have HW1 := Lib.hid (show IntKind.i64.wrap (1 + (f : Int)) = 1 + (f : Int) from IntWalk.i64_in _ (by omega))
            have HW2 := Lib.hid (show IntKind.i64.wrap ((f : Int) + 16) = (T : Int) by rw [IntWalk.i64_in _ (by omega)]; exact HTT.out)
            rw [HW1.out, HW2.out]
            refine wpAnyH_take (i := 9) (v := ?_) (by simp only [List.getElem?_toArray, List.getElem?_cons_succ, List.getElem?_cons_zero]; rfl) (by kernel_rfl) (by kernel_rfl) (by kernel_rfl) (by exact fun _ _ _ h => h) (Or.inl ⟨by rfl, ?_⟩) (by assumption) ?_
            rotate_left 1
            · intro w hSw; (try dsimp only at hSw); go_simp; (try with_reducible rfl)
            (try simp only [Act.put, List.setIfInBounds_toArray, List.set_cons_zero, List.set_cons_succ])
            refine wpAnyH_ready (rs := [4]) (by kernel_rfl) (by simp) ?_
            refine AllReadyH.cons (by simp only [List.getElem?_toArray, List.getElem?_cons_succ, List.getElem?_cons_zero]; rfl) (fun Kq hKq => ?_) AllReadyH.nil
            go_simp
            refine (seqadd_any p (1 + (f : Int)) _).mono ?_
            rintro e w9 ⟨rfl, rfl⟩
            go_simp
            refine hKq.out _ _ (hHeld) (fun hHeld2 => ?_)
            clear hKq Kq hHeld
            (try simp only [Act.put, List.setIfInBounds_toArray, List.set_cons_zero, List.set_cons_succ])
            have hHeld := hHeld2
            clear hHeld2
            refine wpAnyH_take (i := 10) (v := ?_) (by simp only [List.getElem?_toArray, List.getElem?_cons_succ, List.getElem?_cons_zero]; rfl) (by kernel_rfl) (by kernel_rfl) (by kernel_rfl) (by exact fun _ _ _ h => h) (Or.inl ⟨by rfl, ?_⟩) (by assumption) ?_
            rotate_left 1
            · intro w hSw; (try dsimp only at hSw); go_simp; (try with_reducible rfl)
            (try simp only [Act.put, List.setIfInBounds_toArray, List.set_cons_zero, List.set_cons_succ])
            refine wpAnyH_ready (rs := [11]) (by kernel_rfl) (by simp) ?_
            refine AllReadyH.cons (by simp only [List.getElem?_toArray, List.getElem?_cons_succ, List.getElem?_cons_zero]; rfl) (fun Kq hKq => ?_) AllReadyH.nil
            go_simp
            have hb := sgBel v2 (.cells #[.int .i64 1, .int .i64 2, .int .i64 (addV p (1 + (f : Int))), .int .i64 0, .bool false, .bool false, .bool false, .bool false, .int .i64 0, .int .i64 0, .bool false, .slice none 0 0, .string (sB.extract f T)] 57)
            have hblk : (v2.alloc (.cells #[.int .i64 1, .int .i64 2, .int .i64 (addV p (1 + (f : Int))), .int .i64 0, .bool false, .bool false, .bool false, .bool false, .int .i64 0, .int .i64 0, .bool false, .slice none 0 0, .string (sB.extract f T)] 57)).heap[v2.heap.size]? = some (.cells (rowV (mkQ p sB (f, T))).toArray 57 (0, 0)) := heap_alloc_new _ _
            replace HL := Lib.hid (HL.out.to hb)
            have hHeld3 := True.intro
            generalize v2.alloc (.cells #[.int .i64 1, .int .i64 2, .int .i64 (addV p (1 + (f : Int))), .int .i64 0, .bool false, .bool false, .bool false, .bool false, .int .i64 0, .int .i64 0, .bool false, .slice none 0 0, .string (sB.extract f T)] 57) = v3 at HL hblk hHeld3 ⊢
            clear hb
            refine hKq.out _ _ (hHeld3) (fun hHeld2 => ?_)
            clear hKq Kq hHeld hHeld3
            (try simp only [Act.put, List.setIfInBounds_toArray, List.set_cons_zero, List.set_cons_succ])
            have hHeld := hHeld2
            clear hHeld2
            refine wpAnyH_ready (rs := [12]) (by kernel_rfl) (by simp) ?_
            refine AllReadyH.cons (by simp only [List.getElem?_toArray, List.getElem?_cons_succ, List.getElem?_cons_zero]; rfl) (fun Kq hKq => ?_) AllReadyH.nil
            refine step_append_seg rfl _ _ rfl M _ ((P ++ five.take j).map (mkQ p sB)) (by rfl) HL.out.own (by rw [List.length_map]; rw [List.length_append, List.length_take]; omega) v2.heap.size (mkQ p sB (f, T)) (by rfl) 57 (0, 0) hblk HL.out.size ?_
            intro v' v4 ho hg4 _
            replace HL := Lib.hid (HL.out.app hwM hBM hRM (x := (f, T)) ⟨by dsimp only; omega, by dsimp only; omega⟩ ho hg4)
            refine hKq.out _ _ (trivial) (fun hHeld2 => ?_)
            clear hKq Kq hHeld hg4 ho hblk
            (try simp only [Act.put, List.setIfInBounds_toArray, List.set_cons_zero, List.set_cons_succ])
            have hHeld := hHeld2
            clear hHeld2
            refine wpAnyH_take (i := 13) (v := ?_) (by simp only [List.getElem?_toArray, List.getElem?_cons_succ, List.getElem?_cons_zero]; rfl) (by kernel_rfl) (by kernel_rfl) (by kernel_rfl) (by exact fun _ _ _ h => h) (Or.inl ⟨by rfl, ?_⟩) (by assumption) ?_
            rotate_left 1
            · intro w hSw; (try dsimp only at hSw); go_simp; (try with_reducible rfl)
            (try simp only [Act.put, List.setIfInBounds_toArray, List.set_cons_zero, List.set_cons_succ])
            refine wpAnyH_done (by kernel_rfl) ?_ _
            clear hHeld
            go_wp2_with fail
            go_roundg (gk - 1)
            case measure => omega
            case rel => exact ⟨j + 1, T, by rw [HT2.out, HF.out]; omega, congrArg (Value.int .i64) HTT.out, by omega, by rw [five_take j h1, ← List.append_assoc, ← HF.out, ← HT2.out]; exact HL.out⟩
          · obtain rfl : j = 5 := by omega
            obtain rfl : f = 80 := by omega
            go_wp2_with fail
            go_meet
            case rel => exact HL.out
      case rest =>
        clear HL
        have HL := Lib.hid hcut
        clear hcut
        have hPl : (P ++ five).length = P.length + 5 := by rw [List.length_append]; rfl
        have HOK := Lib.hid HL.out.ok
        have HCV := Lib.hid (cover_tail P)
        rw [show [(0, 16), (16, 32), (32, 48), (48, 64), (64, 80)] = five from rfl] at HCV
        generalize P ++ five = PL at HL hPl HOK HCV
        obtain ⟨g, lc, hlv, hgM, -, -⟩ := HL.out.own.cells (by rw [List.length_map]; omega)
        obtain ⟨n, hn⟩ : ∃ n, n = PL.length := ⟨_, rfl⟩
        rw [List.length_map, ← hn] at hlv
        subst hlv
        rw [← hn] at hPl
        have HN := Lib.hid hn
        have hn25 : n ≤ 25 := by omega
        clear hn hPl
        have HQ := Lib.hid (QI.start (P := PL) HSL.out)
        have HX := Lib.hid HL.out.box
        have HO := Lib.hid HL.out.own
        have HB := Lib.hid HL.out.below
        have HM := Lib.hid HL.out.size
        clear HL
        go_wp2_with fail
        go_loopg [12, 17] n (fun gg gv iv wr => ∃ (i : Nat) (b : Bx) (got : ByteArray), iv = .int .i64 (i : Int) ∧ gv = .string got ∧ gg + i = n ∧ QI S PL i b got.data.toList ∧ BoxAt B R M b wr ∧ OwnQ wr M (.slice (some ⟨g, 0, none⟩) n lc) (PL.map (mkQ p sB)) ∧ Below w.heap.size w wr ∧ M ≤ wr.heap.size)
        case atStart => exact ⟨0, _, ⟨#[]⟩, rfl, rfl, rfl, HQ.out, HX.out, HO.out, HB.out, HM.out⟩
        case round =>
          clear HQ HX HO HB HM
          obtain ⟨i, b, got, rfl, rfl, hgi, hQ, hX, hO, hB, hM⟩ := hrel
          have HQ := Lib.hid hQ
          have HX := Lib.hid hX
          have HO := Lib.hid hO
          have HB := Lib.hid hB
          have HM := Lib.hid hM
          clear hQ hX hO hB hM
          by_cases hin : i < n
          · have hiP : i < PL.length := by rw [← HN.out]; exact hin
            have hok := HOK.out _ (List.getElem_mem hiP)
            have HEL := Lib.hid (show QElem g i (mkQ p sB PL[i]) wr by have := HO.out.elem i (by rw [List.length_map]; exact hiP); rwa [List.getElem_map] at this)
            have HPT := Lib.hid (fun (s : List UInt8) (hs : s = (S.drop PL[i].1).take (PL[i].2 - PL[i].1)) => HQ.out.put hiP hok.1 hok.2 hs)
            generalize PL[i] = x at hok HEL HPT
            obtain ⟨F, T⟩ := x
            obtain ⟨t1, t2⟩ := hok
            dsimp only at t1 t2 HPT
            have hD := diff_piece p (F : Int) (by omega) (by omega)
            have HD := Lib.hid hD
            clear hD
            unfold mkQ at HEL
            dsimp only at HEL
            obtain ⟨q1, q2⟩ := addV_bd p (1 + (F : Int))
            generalize addV p (1 + (F : Int)) = q at HEL q1 q2 HD
            have HQ1 := Lib.hid q1
            have HQ2 := Lib.hid q2
            clear q1 q2
            obtain ⟨pc, hpc⟩ : ∃ pc : ByteArray, pc = sB.extract F T := ⟨_, rfl⟩
            rw [← hpc] at HEL
            have hpl : pc.data.toList = (S.drop F).take (T - F) := by rw [hpc, ByteArray.data_extract, Array.toList_extract, List.extract_eq_take_drop, HSB.out]
            have hps : pc.size ≤ 80 := by rw [hpc, ByteArray.size_extract]; omega
            have HPL := Lib.hid hpl
            clear hpc hpl
            have hii : (i : Int) < (n : Int) := by omega
            obtain ⟨e0, e1, e2, e3, e4, e5, e6, e7, e8, e9, e10, e11, e12⟩ := HEL.out
            dsimp only at e0 e1 e2 e3 e4 e5 e6 e7 e8 e9 e10 e11 e12
            go_wp2_with fail
            clear e0 e1 e2 e3 e4 e5 e6 e7 e8 e9 e10 e11 e12
            refine (data_enc q pc HQ1.out HQ2.out (by omega) _).mono ?_
            rintro e y1 ⟨rfl, hb⟩
            obtain ⟨en, hen⟩ : ∃ en : ByteArray, en = ⟨((dataSg q pc.data.toList).encL 5 6).toArray⟩ := ⟨_, rfl⟩
            rw [← hen]
            have HEN := Lib.hid hen
            clear hen
            replace HEL := Lib.hid (HEL.out.below hb (block_lt_of_cell HEL.out.c0))
            replace HX := Lib.hid (HX.out.below hb)
            replace HO := Lib.hid (HO.out.below hb)
            replace HB := Lib.hid (HB.out.trans (hb.mono HB.out.size))
            replace HM := Lib.hid (Nat.le_trans HM.out hb.size)
            clear hb
            go_wp2_with fail
            refine (data_dec q pc en HQ1.out HQ2.out (by omega) HEN.out _).mono ?_
            rintro e y2 ⟨da, dc, rfl, hb⟩
            replace HEL := Lib.hid (HEL.out.below hb (block_lt_of_cell HEL.out.c0))
            replace HX := Lib.hid (HX.out.below hb)
            replace HO := Lib.hid (HO.out.below hb)
            replace HB := Lib.hid (HB.out.trans (hb.mono HB.out.size))
            replace HM := Lib.hid (Nat.le_trans HM.out hb.size)
            clear hb
            go_wp2_with fail
            have hb := sgBel y2 (.cells #[.int .i64 1, .int .i64 2, .int .i64 q, .int .i64 0, .bool false, .bool false, .bool false, .bool false, .int .i64 0, .int .i64 0, .bool false, .slice da 0 dc, .string pc] 57)
            have HXR := Lib.hid (show SgC y2.heap.size (.int .i64 1) (.int .i64 2) (.int .i64 q) (.int .i64 0) (.bool false) (.bool false) (.bool false) (.bool false) (.int .i64 0) (.int .i64 0) (.bool false) (.slice da 0 dc) (.string pc) (y2.alloc (.cells #[.int .i64 1, .int .i64 2, .int .i64 q, .int .i64 0, .bool false, .bool false, .bool false, .bool false, .int .i64 0, .int .i64 0, .bool false, .slice da 0 dc, .string pc] 57)) from SgC.new _ _ _ _ _ _ _ _ _ _ _ _ _ _ _)
            obtain ⟨X, hX⟩ : ∃ X, X = y2.heap.size := ⟨_, rfl⟩
            have hXM : M ≤ X := by rw [hX]; exact HM.out
            rw [← hX] at HXR ⊢
            replace HEL := Lib.hid (HEL.out.below hb (block_lt_of_cell HEL.out.c0))
            replace HX := Lib.hid (HX.out.below hb)
            replace HO := Lib.hid (HO.out.below hb)
            replace HB := Lib.hid (HB.out.trans (hb.mono HB.out.size))
            replace HM := Lib.hid (Nat.le_trans HM.out hb.size)
            clear hb
            generalize y2.alloc (.cells #[.int .i64 1, .int .i64 2, .int .i64 q, .int .i64 0, .bool false, .bool false, .bool false, .bool false, .int .i64 0, .int .i64 0, .bool false, .slice da 0 dc, .string pc] 57) = y3 at HEL HXR HX HO HB HM ⊢
            clear hX
            refine wp_region_held_drew (S := (fun W : World => SgC X (.int .i64 1) (.int .i64 2) (.int .i64 q) (.int .i64 0) (.bool false) (.bool false) (.bool false) (.bool false) (.int .i64 0) (.int .i64 0) (.bool false) (.slice da 0 dc) (.string pc) W ∧ QElem g i (q, pc) W)) (by kernel_rfl) (⟨HXR.out.below (Below.refl _ _).drew HXR.out.c0.lt, HEL.out.below (Below.refl _ _).drew (block_lt_of_cell HEL.out.c0)⟩) (fun hHeld => ?_)
            have hb := (Below.refl y3.heap.size y3).drew
            obtain ⟨y4, hy4⟩ : ∃ y4, y4 = y3.drew := ⟨_, rfl⟩
            rw [← hy4] at hb hHeld ⊢
            replace HEL := Lib.hid (HEL.out.below hb (block_lt_of_cell HEL.out.c0))
            replace HXR := Lib.hid (HXR.out.below hb HXR.out.c0.lt)
            replace HX := Lib.hid (HX.out.below hb)
            replace HO := Lib.hid (HO.out.below hb)
            replace HB := Lib.hid (HB.out.trans (hb.mono HB.out.size))
            replace HM := Lib.hid (Nat.le_trans HM.out hb.size)
            clear hb
            clear hy4
            refine wpAnyH_take (i := 0) (v := ?_) (by simp only [List.getElem?_toArray, List.getElem?_cons_zero]; rfl) (by kernel_rfl) (by kernel_rfl) (by kernel_rfl) (by exact fun _ _ _ h => h) (Or.inl ⟨by rfl, ?_⟩) (by assumption) ?_
            rotate_left 1
            · intro w hSw; (try dsimp only at hSw); go_simp; (try with_reducible rfl)
            (try simp only [Act.put, List.setIfInBounds_toArray, List.set_cons_zero, List.set_cons_succ])
            refine wpAnyH_take (i := 1) (v := ?_) (by simp only [List.getElem?_toArray, List.getElem?_cons_succ, List.getElem?_cons_zero]; rfl) (by kernel_rfl) (by kernel_rfl) (by kernel_rfl) (by exact fun _ _ _ h => h) (Or.inl ⟨by rfl, ?_⟩) (by assumption) ?_
            rotate_left 1
            · intro w hSw; (try dsimp only at hSw); go_simp; (try with_reducible rfl)
            (try simp only [Act.put, List.setIfInBounds_toArray, List.set_cons_zero, List.set_cons_succ])
            refine wpAnyH_take (i := 2) (v := ?_) (by simp only [List.getElem?_toArray, List.getElem?_cons_succ, List.getElem?_cons_zero]; rfl) (by kernel_rfl) (by kernel_rfl) (by kernel_rfl) (by exact fun _ _ _ h => h) (Or.inl ⟨by rfl, ?_⟩) (by assumption) ?_
            rotate_left 1
            · intro w hSw; (try dsimp only at hSw); go_simp; (try with_reducible rfl)
            (try simp only [Act.put, List.setIfInBounds_toArray, List.set_cons_zero, List.set_cons_succ])
            refine wpAnyH_take (i := 3) (v := ?_) (by simp only [List.getElem?_toArray, List.getElem?_cons_succ, List.getElem?_cons_zero]; rfl) (by kernel_rfl) (by kernel_rfl) (by kernel_rfl) (by exact fun _ _ _ h => h) (Or.inl ⟨by rfl, ?_⟩) (by assumption) ?_
            rotate_left 1
            · intro w hSw; (try dsimp only at hSw); go_simp; (try with_reducible rfl)
            (try simp only [Act.put, List.setIfInBounds_toArray, List.set_cons_zero, List.set_cons_succ])
            refine wpAnyH_take (i := 4) (v := ?_) (by simp only [List.getElem?_toArray, List.getElem?_cons_succ, List.getElem?_cons_zero]; rfl) (by kernel_rfl) (by kernel_rfl) (by kernel_rfl) (by exact fun _ _ _ h => h) (Or.inl ⟨by rfl, ?_⟩) (by assumption) ?_
            rotate_left 1
            · intro w hSw; (try dsimp only at hSw); go_simp; (try with_reducible rfl)
            (try simp only [Act.put, List.setIfInBounds_toArray, List.set_cons_zero, List.set_cons_succ])
            refine wpAnyH_take (i := 5) (v := ?_) (by simp only [List.getElem?_toArray, List.getElem?_cons_succ, List.getElem?_cons_zero]; rfl) (by kernel_rfl) (by kernel_rfl) (by kernel_rfl) (by exact fun _ _ _ h => h) (Or.inl ⟨by rfl, ?_⟩) (by assumption) ?_
            rotate_left 1
            · intro w hSw; (try dsimp only at hSw); go_simp; (try with_reducible rfl)
            (try simp only [Act.put, List.setIfInBounds_toArray, List.set_cons_zero, List.set_cons_succ])
            refine wpAnyH_take (i := 6) (v := ?_) (by simp only [List.getElem?_toArray, List.getElem?_cons_succ, List.getElem?_cons_zero]; rfl) (by kernel_rfl) (by kernel_rfl) (by kernel_rfl) (by exact fun _ _ _ h => h) (Or.inl ⟨by rfl, ?_⟩) (by assumption) ?_
            rotate_left 1
            · intro w hSw; (try dsimp only at hSw); go_simp; (try with_reducible rfl)
            (try simp only [Act.put, List.setIfInBounds_toArray, List.set_cons_zero, List.set_cons_succ])
            refine wpAnyH_take (i := 7) (v := ?_) (by simp only [List.getElem?_toArray, List.getElem?_cons_succ, List.getElem?_cons_zero]; rfl) (by kernel_rfl) (by kernel_rfl) (by kernel_rfl) (by exact fun _ _ _ h => h) (Or.inl ⟨by rfl, ?_⟩) (by assumption) ?_
            rotate_left 1
            · intro w hSw; (obtain ⟨⟨⟨z0, -⟩, ⟨z1, -⟩, ⟨z2, -⟩, ⟨z3, -⟩, ⟨z4, -⟩, ⟨z5, -⟩, ⟨z6, -⟩, ⟨z7, -⟩, ⟨z8, -⟩, ⟨z9, -⟩, ⟨z10, -⟩, ⟨z11, -⟩, ⟨z12, -⟩⟩, -⟩ := hSw); go_simp; (try with_reducible rfl)
            (try simp only [Act.put, List.setIfInBounds_toArray, List.set_cons_zero, List.set_cons_succ])
            refine wpAnyH_take (i := 8) (v := ?_) (by simp only [List.getElem?_toArray, List.getElem?_cons_succ, List.getElem?_cons_zero]; rfl) (by kernel_rfl) (by kernel_rfl) (by kernel_rfl) (by exact fun _ _ _ h => h) (Or.inl ⟨by rfl, ?_⟩) (by assumption) ?_
            rotate_left 1
            · intro w hSw; (try dsimp only at hSw); go_simp; (try with_reducible rfl)
            (try simp only [Act.put, List.setIfInBounds_toArray, List.set_cons_zero, List.set_cons_succ])
            refine wpAnyH_take (i := 9) (v := ?_) (by simp only [List.getElem?_toArray, List.getElem?_cons_succ, List.getElem?_cons_zero]; rfl) (by kernel_rfl) (by kernel_rfl) (by kernel_rfl) (by exact fun _ _ _ h => h) (Or.inl ⟨by rfl, ?_⟩) (by assumption) ?_
            rotate_left 1
            · intro w hSw; (try dsimp only at hSw); go_simp; (try with_reducible rfl)
            (try simp only [Act.put, List.setIfInBounds_toArray, List.set_cons_zero, List.set_cons_succ])
            refine wpAnyH_take (i := 10) (v := ?_) (by simp only [List.getElem?_toArray, List.getElem?_cons_succ, List.getElem?_cons_zero]; rfl) (by kernel_rfl) (by kernel_rfl) (by kernel_rfl) (by exact fun _ _ _ h => h) (Or.inl ⟨by rfl, ?_⟩) (by assumption) ?_
            rotate_left 1
            · intro w hSw; (try dsimp only at hSw); go_simp; (try with_reducible rfl)
            (try simp only [Act.put, List.setIfInBounds_toArray, List.set_cons_zero, List.set_cons_succ])
            refine wpAnyH_take (i := 11) (v := ?_) (by simp only [List.getElem?_toArray, List.getElem?_cons_succ, List.getElem?_cons_zero]; rfl) (by kernel_rfl) (by kernel_rfl) (by kernel_rfl) (by exact fun _ _ _ h => h) (Or.inl ⟨by rfl, ?_⟩) (by assumption) ?_
            rotate_left 1
            · intro w hSw; (obtain ⟨-, e0, e1, e2, e3, e4, e5, e6, e7, e8, e9, e10, e11, e12⟩ := hSw; dsimp only at e0 e1 e2 e3 e4 e5 e6 e7 e8 e9 e10 e11 e12); go_simp; (try with_reducible rfl)
            (try simp only [Act.put, List.setIfInBounds_toArray, List.set_cons_zero, List.set_cons_succ])
            refine wpAnyH_ready (rs := [12]) (by kernel_rfl) (by simp) ?_
            refine AllReadyH.cons (by simp only [List.getElem?_toArray, List.getElem?_cons_succ, List.getElem?_cons_zero]; rfl) (fun Kq hKq => ?_) AllReadyH.nil
            go_simp
            refine (same0_any 1 2 q 0 0 0 false false false false false pc da none dc 0 _).mono ?_
            rintro e y5 ⟨rfl, hb⟩
            replace HEL := Lib.hid (HEL.out.below hb (block_lt_of_cell HEL.out.c0))
            replace HXR := Lib.hid (HXR.out.below hb HXR.out.c0.lt)
            replace HX := Lib.hid (HX.out.below hb)
            replace HO := Lib.hid (HO.out.below hb)
            replace HB := Lib.hid (HB.out.trans (hb.mono HB.out.size))
            replace HM := Lib.hid (Nat.le_trans HM.out hb.size)
            clear hb
            go_simp
            refine hKq.out _ _ (⟨HXR.out, HEL.out⟩) (fun hHeld2 => ?_)
            clear hKq Kq hHeld
            (try simp only [Act.put, List.setIfInBounds_toArray, List.set_cons_zero, List.set_cons_succ])
            have hHeld := hHeld2
            clear hHeld2
            refine wpAnyH_take (i := 13) (v := ?_) (by simp only [List.getElem?_toArray, List.getElem?_cons_succ, List.getElem?_cons_zero]; rfl) (by kernel_rfl) (by kernel_rfl) (by kernel_rfl) (by exact fun _ _ _ h => h) (Or.inl ⟨by rfl, ?_⟩) (by assumption) ?_
            rotate_left 1
            · intro w hSw; (try dsimp only at hSw); go_simp; (try with_reducible rfl)
            (try simp only [Act.put, List.setIfInBounds_toArray, List.set_cons_zero, List.set_cons_succ])
            refine wpAnyH_take (i := 14) (v := ?_) (by simp only [List.getElem?_toArray, List.getElem?_cons_succ, List.getElem?_cons_zero]; rfl) (by kernel_rfl) (by kernel_rfl) (by kernel_rfl) (by exact fun _ _ _ h => h) (Or.inl ⟨by rfl, ?_⟩) (by assumption) ?_
            rotate_left 1
            · intro w hSw; (try dsimp only at hSw); go_simp; (try with_reducible rfl)
            (try simp only [Act.put, List.setIfInBounds_toArray, List.set_cons_zero, List.set_cons_succ])
            refine wpAnyH_done (by kernel_rfl) ?_ _
            clear hHeld
            go_wp2_with fail
            refine wp_region_held_drew (S := (fun W : World => SgC X (.int .i64 1) (.int .i64 2) (.int .i64 q) (.int .i64 0) (.bool false) (.bool false) (.bool false) (.bool false) (.int .i64 0) (.int .i64 0) (.bool false) (.slice da 0 dc) (.string pc) W)) (by kernel_rfl) (HXR.out.below (Below.refl _ _).drew HXR.out.c0.lt) (fun hHeld => ?_)
            have hb := (Below.refl y5.heap.size y5).drew
            obtain ⟨y6, hy6⟩ : ∃ y6, y6 = y5.drew := ⟨_, rfl⟩
            rw [← hy6] at hb hHeld ⊢
            replace HEL := Lib.hid (HEL.out.below hb (block_lt_of_cell HEL.out.c0))
            replace HXR := Lib.hid (HXR.out.below hb HXR.out.c0.lt)
            replace HX := Lib.hid (HX.out.below hb)
            replace HO := Lib.hid (HO.out.below hb)
            replace HB := Lib.hid (HB.out.trans (hb.mono HB.out.size))
            replace HM := Lib.hid (Nat.le_trans HM.out hb.size)
            clear hb
            clear hy6
            refine wpAnyH_take (i := 0) (v := ?_) (by simp only [List.getElem?_toArray, List.getElem?_cons_zero]; rfl) (by kernel_rfl) (by kernel_rfl) (by kernel_rfl) (by exact fun _ _ _ h => h) (Or.inl ⟨by rfl, ?_⟩) (by assumption) ?_
            rotate_left 1
            · intro w hSw; (try dsimp only at hSw); go_simp; (try with_reducible rfl)
            (try simp only [Act.put, List.setIfInBounds_toArray, List.set_cons_zero, List.set_cons_succ])
            refine wpAnyH_take (i := 1) (v := ?_) (by simp only [List.getElem?_toArray, List.getElem?_cons_succ, List.getElem?_cons_zero]; rfl) (by kernel_rfl) (by kernel_rfl) (by kernel_rfl) (by exact fun _ _ _ h => h) (Or.inl ⟨by rfl, ?_⟩) (by assumption) ?_
            rotate_left 1
            · intro w hSw; (try dsimp only at hSw); go_simp; (try with_reducible rfl)
            (try simp only [Act.put, List.setIfInBounds_toArray, List.set_cons_zero, List.set_cons_succ])
            refine wpAnyH_take (i := 3) (v := ?_) (by simp only [List.getElem?_toArray, List.getElem?_cons_succ, List.getElem?_cons_zero]; rfl) (by kernel_rfl) (by kernel_rfl) (by kernel_rfl) (by exact fun _ _ _ h => h) (Or.inl ⟨by rfl, ?_⟩) (by assumption) ?_
            rotate_left 1
            · intro w hSw; (try dsimp only at hSw); go_simp; (try with_reducible rfl)
            (try simp only [Act.put, List.setIfInBounds_toArray, List.set_cons_zero, List.set_cons_succ])
            refine wpAnyH_take (i := 6) (v := ?_) (by simp only [List.getElem?_toArray, List.getElem?_cons_succ, List.getElem?_cons_zero]; rfl) (by kernel_rfl) (by kernel_rfl) (by kernel_rfl) (by exact fun _ _ _ h => h) (Or.inl ⟨by rfl, ?_⟩) (by assumption) ?_
            rotate_left 1
            · intro w hSw; (try dsimp only at hSw); go_simp; (try with_reducible rfl)
            (try simp only [Act.put, List.setIfInBounds_toArray, List.set_cons_zero, List.set_cons_succ])
            refine wpAnyH_take (i := 2) (v := ?_) (by simp only [List.getElem?_toArray, List.getElem?_cons_succ, List.getElem?_cons_zero]; rfl) (by kernel_rfl) (by kernel_rfl) (by kernel_rfl) (by exact fun _ _ _ h => h) (Or.inl ⟨by rfl, ?_⟩) (by assumption) ?_
            rotate_left 1
            · intro w hSw; (obtain ⟨⟨z0, -⟩, ⟨z1, -⟩, ⟨z2, -⟩, ⟨z3, -⟩, ⟨z4, -⟩, ⟨z5, -⟩, ⟨z6, -⟩, ⟨z7, -⟩, ⟨z8, -⟩, ⟨z9, -⟩, ⟨z10, -⟩, ⟨z11, -⟩, ⟨z12, -⟩⟩ := hSw); go_simp; (try with_reducible rfl)
            (try simp only [Act.put, List.setIfInBounds_toArray, List.set_cons_zero, List.set_cons_succ])
            refine wpAnyH_take (i := 7) (v := ?_) (by simp only [List.getElem?_toArray, List.getElem?_cons_succ, List.getElem?_cons_zero]; rfl) (by kernel_rfl) (by kernel_rfl) (by kernel_rfl) (by exact fun _ _ _ h => h) (Or.inl ⟨by rfl, ?_⟩) (by assumption) ?_
            rotate_left 1
            · intro w hSw; (obtain ⟨⟨z0, -⟩, ⟨z1, -⟩, ⟨z2, -⟩, ⟨z3, -⟩, ⟨z4, -⟩, ⟨z5, -⟩, ⟨z6, -⟩, ⟨z7, -⟩, ⟨z8, -⟩, ⟨z9, -⟩, ⟨z10, -⟩, ⟨z11, -⟩, ⟨z12, -⟩⟩ := hSw); go_simp; (try with_reducible rfl)
            (try simp only [Act.put, List.setIfInBounds_toArray, List.set_cons_zero, List.set_cons_succ])
            refine wpAnyH_ready (rs := [4]) (by kernel_rfl) (by simp) ?_
            refine AllReadyH.cons (by simp only [List.getElem?_toArray, List.getElem?_cons_succ, List.getElem?_cons_zero]; rfl) (fun Kq hKq => ?_) AllReadyH.nil
            go_simp
            refine (seqadd_any p 1 _).mono ?_
            rintro e w9 ⟨rfl, rfl⟩
            go_simp
            refine hKq.out _ _ (HXR.out) (fun hHeld2 => ?_)
            clear hKq Kq hHeld
            (try simp only [Act.put, List.setIfInBounds_toArray, List.set_cons_zero, List.set_cons_succ])
            have hHeld := hHeld2
            clear hHeld2
            refine wpAnyH_ready (rs := [5]) (by kernel_rfl) (by simp) ?_
            refine AllReadyH.cons (by simp only [List.getElem?_toArray, List.getElem?_cons_succ, List.getElem?_cons_zero]; rfl) (fun Kq hKq => ?_) AllReadyH.nil
            go_simp
            refine (diff_any q (addV p 1) _).mono ?_
            rintro e w9 ⟨rfl, rfl⟩
            rw [HD.out]
            go_simp
            refine hKq.out _ _ (HXR.out) (fun hHeld2 => ?_)
            clear hKq Kq hHeld
            (try simp only [Act.put, List.setIfInBounds_toArray, List.set_cons_zero, List.set_cons_succ])
            have hHeld := hHeld2
            clear hHeld2
            have hE : putE (F : Int) = 0 := by unfold putE; rw [if_neg (by omega)]
            have HE := Lib.hid hE
            clear hE
            refine wpAnyH_ready (rs := [8]) (by kernel_rfl) (by simp) ?_
            refine AllReadyH.cons (by simp only [List.getElem?_toArray, List.getElem?_cons_succ, List.getElem?_cons_zero]; rfl) (fun Kq hKq => ?_) AllReadyH.nil
            go_simp
            refine (put_any B R M b (F : Int) pc _ HX.out HQ.out.pi.ok HM.out (by omega)).mono ?_
            rintro e y7 ⟨rfl, hx2, hc2⟩
            rw [HE.out]
            replace HQ := Lib.hid (HPT.out _ HPL.out)
            generalize b.putN (F : Int) pc.size = pn
            generalize b.put (F : Int) pc.data.toList = b2 at hx2 HQ
            replace HX := Lib.hid hx2
            replace HB := Lib.hid (HB.out.trans (hc2.below hwB hwR HB.out.size))
            replace HM := Lib.hid (Nat.le_trans HM.out hc2.size)
            replace HO := Lib.hid (HO.out.chg2 hc2 (by show some g ≠ some B; intro e; cases e; omega) (by show some g ≠ some R; intro e; cases e; omega))
            have hXl := HXR.out.c0.lt
            replace HXR := Lib.hid (HXR.out.chg2 hc2 (by omega) (by omega))
            clear hx2 hc2 hXl
            go_simp
            refine hKq.out _ _ (HXR.out) (fun hHeld2 => ?_)
            clear hKq Kq hHeld
            (try simp only [Act.put, List.setIfInBounds_toArray, List.set_cons_zero, List.set_cons_succ])
            have hHeld := hHeld2
            clear hHeld2
            refine wpAnyH_take (i := 9) (v := ?_) (by simp only [List.getElem?_toArray, List.getElem?_cons_succ, List.getElem?_cons_zero]; rfl) (by kernel_rfl) (by kernel_rfl) (by kernel_rfl) (by exact fun _ _ _ h => h) (Or.inl ⟨by rfl, ?_⟩) (by assumption) ?_
            rotate_left 1
            · intro w hSw; (try dsimp only at hSw); go_simp; (try with_reducible rfl)
            (try simp only [Act.put, List.setIfInBounds_toArray, List.set_cons_zero, List.set_cons_succ])
            refine wpAnyH_take (i := 10) (v := ?_) (by simp only [List.getElem?_toArray, List.getElem?_cons_succ, List.getElem?_cons_zero]; rfl) (by kernel_rfl) (by kernel_rfl) (by kernel_rfl) (by exact fun _ _ _ h => h) (Or.inl ⟨by rfl, ?_⟩) (by assumption) ?_
            rotate_left 1
            · intro w hSw; (try dsimp only at hSw); go_simp; (try with_reducible rfl)
            (try simp only [Act.put, List.setIfInBounds_toArray, List.set_cons_zero, List.set_cons_succ])
            refine wpAnyH_take (i := 11) (v := ?_) (by simp only [List.getElem?_toArray, List.getElem?_cons_succ, List.getElem?_cons_zero]; rfl) (by kernel_rfl) (by kernel_rfl) (by kernel_rfl) (by exact fun _ _ _ h => h) (Or.inl ⟨by rfl, ?_⟩) (by assumption) ?_
            rotate_left 1
            · intro w hSw; (try dsimp only at hSw); go_simp; (try with_reducible rfl)
            (try simp only [Act.put, List.setIfInBounds_toArray, List.set_cons_zero, List.set_cons_succ])
            refine wpAnyH_take (i := 12) (v := ?_) (by simp only [List.getElem?_toArray, List.getElem?_cons_succ, List.getElem?_cons_zero]; rfl) (by kernel_rfl) (by kernel_rfl) (by kernel_rfl) (by exact fun _ _ _ h => h) (Or.inl ⟨by rfl, ?_⟩) (by assumption) ?_
            rotate_left 1
            · intro w hSw; (try dsimp only at hSw); go_simp; (try with_reducible rfl)
            (try simp only [Act.put, List.setIfInBounds_toArray, List.set_cons_zero, List.set_cons_succ])
            refine wpAnyH_take (i := 13) (v := ?_) (by simp only [List.getElem?_toArray, List.getElem?_cons_succ, List.getElem?_cons_zero]; rfl) (by kernel_rfl) (by kernel_rfl) (by kernel_rfl) (by exact fun _ _ _ h => h) (Or.inl ⟨by rfl, ?_⟩) (by assumption) ?_
            rotate_left 1
            · intro w hSw; (try dsimp only at hSw); go_simp; (try with_reducible rfl)
            (try simp only [Act.put, List.setIfInBounds_toArray, List.set_cons_zero, List.set_cons_succ])
            refine wpAnyH_done (by kernel_rfl) ?_ _
            clear hHeld HXR HEL HPT HPL HEN HD HE
            go_wp2_with fail
            have hi25 : i ≤ 25 := by omega
            refine (pick_any ((i : Int) * 7) 30 _ (by omega) (by omega) (by omega) (by omega)).mono ?_
            rintro e w9 ⟨rfl, rfl⟩
            generalize pickV ((i : Int) * 7) 30 = kk
            go_wp2_with fail
            refine (take_any B R M b2 kk _ HX.out HQ.out.pi.ok).mono ?_
            rintro e y8 ⟨rfl, hx1, hc1⟩
            have hq := HQ.out.take kk
            obtain ⟨tB, htB⟩ : ∃ tB : ByteArray, tB = ⟨(b2.takeS kk).toArray⟩ := ⟨_, rfl⟩
            rw [← htB]
            have htl : tB.data.toList = b2.takeS kk := by rw [htB]
            rw [← htl, ← app_list] at hq
            have hgl := hq.pi.got_le
            rw [Array.length_toList] at hgl
            have hgsz : got.size + tB.size ≤ 80 := by rw [← ByteArray.size_append]; exact hgl
            have hg1 : got.size ≤ 80 := by omega
            have hg2 : tB.size ≤ 80 := by omega
            generalize b2.take kk = b3 at hx1 hq
            replace HQ := Lib.hid hq
            replace HX := Lib.hid hx1
            replace HB := Lib.hid (HB.out.trans ((Chg2.of1 (R := R) hc1).below hwB hwR HB.out.size))
            replace HM := Lib.hid (Nat.le_trans HM.out hc1.size)
            replace HO := Lib.hid (HO.out.chg2 (Chg2.of1 (R := R) hc1) (by show some g ≠ some B; intro e; cases e; omega) (by show some g ≠ some R; intro e; cases e; omega))
            clear htB htl hq hx1 hc1
            skip
            obtain ⟨gn, hgn⟩ : ∃ gn : ByteArray, gn = got ++ tB := ⟨_, rfl⟩
            rw [← hgn] at HQ hgl
            have hgs : gn.size ≤ 80 := hgl
            have hgg : (gn.size : Int) ≤ 80 := by omega
            have hge : sB.extract 0 gn.size = gn := by
              apply ByteArray.ext
              apply Array.toList_inj.1
              rw [ByteArray.data_extract, Array.toList_extract, List.extract_eq_take_drop, HSB.out, List.drop_zero, Nat.sub_zero]
              have := HQ.out.pi.got
              rw [Array.length_toList] at this
              exact this.symm
            have hgn2 := hgn.symm
            clear hgn hgl
            go_wp2_with fail
            go_roundg (gk - 1)
            case measure => omega
            case rel => exact ⟨i + 1, b3, gn, by go_num, rfl, by omega, HQ.out, HX.out, HO.out, HB.out, HM.out⟩
          · obtain rfl : i = n := by omega
            have hdn := (show QI S PL PL.length b got.data.toList by rw [← HN.out]; exact HQ.out).done HCV.out
            obtain ⟨h80, hall⟩ := hdn
            have hgl := HQ.out.pi.got_le
            rw [Array.length_toList] at hgl
            have hgs : got.size ≤ 80 := hgl
            clear hgl
            go_wp2_with fail
            refine (take_any B R M b 100 _ HX.out HQ.out.pi.ok).mono ?_
            rintro e y8 ⟨rfl, hx1, hc1⟩
            obtain ⟨tB, htB⟩ : ∃ tB : ByteArray, tB = ⟨(b.takeS 100).toArray⟩ := ⟨_, rfl⟩
            rw [← htB]
            have hst : got ++ tB = sB := by
              apply ByteArray.ext
              apply Array.toList_inj.1
              rw [app_list, htB, HSB.out]
              exact hall
            have hsz3 : got.size + tB.size = sB.size := by rw [← ByteArray.size_append, hst]
            have hg2 : tB.size ≤ 80 := by omega
            clear hsz3
            have hsz3 : got.size + tB.size = sB.size := by rw [← ByteArray.size_append, hst]
            have hg2 : tB.size ≤ 80 := by omega
            clear hsz3
            have HBF := Lib.hid (HB.out.trans ((Chg2.of1 (R := R) hc1).below hwB hwR HB.out.size))
            clear htB hx1 hc1 hall h80
            go_wp2_with fail
            go_ret
            exact ⟨rfl, HBF.out⟩
end Go.Proofs.Ytfeppkgcimgkeaa
