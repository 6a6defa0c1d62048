/- ScoreboardPartition: its walk. -/
import Derived.Test.YtncjeleabpodaaaScMade
import Derived.Test.YtncjeleabpodaaaScSane
import Derived.Test.YtncjeleabpodaaaRgGaps
import Derived.Test.YtncjeleabpodaaaRgCount
import Derived.Deep.LoopGhost
import Derived.Deep.RegionHeld3
namespace Go.Proofs.Ytncjeleabpodaaa
open Go.RowKit Go.Shelf
set_option maxRecDepth 100000 in
set_option maxHeartbeats 4000000 in
theorem walk_ScoreboardPartition (w : World) (a : Option Addr) (len cap : Nat) (cs : Nat → Cl) (hrow : IsCalls w a len cs) (mss : Int) (hw : (Lit.int .i64 mss).wf = true) :
    Calls Try.prog 4 #[.slice a len cap, .int .i64 mss] w fun e w' => e = .returned (.bool true) ∧ Below w.heap.size w w' := by
  have hmss : I64 mss := bounds_i64 hw
  clear hw
  have hml := hrow.1
  unfold maxLen at hml
  have HROW := Lib.hid hrow
  clear hrow
  go_enter Try.func4, Try.ntmps4
  go_wp2_with fail
  refine (sane_any _).mono ?_
  rintro e v0 ⟨rfl, hb0⟩
  have HB := Lib.hid hb0
  clear hb0
  go_wp2_with fail
  refine (made_any v0 _ len cap cs (HROW.out.below HB.out)).mono ?_
  rintro e w1 ⟨Bs, Br, lb, s, rfl, ok, hn, hsl, hNs0, hs, hb⟩
  have hNs : w.heap.size ≤ Bs := Nat.le_trans HB.out.size hNs0
  have HS := Lib.hid hs
  have HOK := Lib.hid ok
  replace HB := Lib.hid (HB.out.trans (hb.mono HB.out.size))
  clear hs hb ok hNs0 HROW hml
  have HPM := Lib.hid (fun W => pick_any mss 20 W hmss (by omega) (by omega))
  have hpm := pickV_bd mss 20 (by omega)
  generalize pickV mss 20 = m0 at HPM hpm ⊢
  go_wp2_with fail
  refine (HPM.out _).mono ?_
  rintro e w1' ⟨rfl, rfl⟩
  clear HPM
  go_wp2_with fail
  obtain ⟨m, hm⟩ : ∃ m, m = 1 + m0 := ⟨_, rfl⟩
  rw [← hm]
  have hm1 : 1 ≤ m := by omega
  have hm2 : m ≤ 20 := by omega
  clear hm hpm
  refine (scsacked_any Bs _ s _ HS.out).mono ?_
  rintro e v1 ⟨vl, rfl, hO, hb⟩
  replace HS := Lib.hid (HS.out.below hb)
  replace HB := Lib.hid (HB.out.trans (hb.mono HB.out.size))
  clear hb
  obtain ⟨sa, sac, rfl, hsp, -, -⟩ := hO.at (canonF_len HOK.out.csk)
  have HSK := Lib.hid hsp
  clear hO hsp
  go_wp2_with fail
  have HLC := Lib.hid (lost_spec HOK.out hm1).1
  have HPT := Lib.hid (partition HOK.out hm1)
  have HAP := Lib.hid (fun x (hx : x ∈ s.lost m) => lost_apart HOK.out hm1 hx)
  have HSI := Lib.hid (fun x (hx : x ∈ s.sk) => sacked_in HOK.out hx)
  refine (sclost_any Bs _ s m _ HOK.out HS.out).mono ?_
  rintro e v2 ⟨vl, rfl, hO, hb⟩
  replace HS := Lib.hid (HS.out.below hb)
  replace HB := Lib.hid (HB.out.trans (hb.mono HB.out.size))
  replace HSK := Lib.hid ((HSK.out.below hb).mono hb.size)
  clear hb
  obtain ⟨la, lac, rfl, hsp, -, -⟩ := hO.at (canonF_len HLC.out)
  have HLS := Lib.hid hsp
  clear hO hsp
  go_wp2_with fail
  refine (valid_any v2 v2.heap.size sa sac s.sk HSK.out (Nat.le_refl _)).mono ?_
  rintro e v3 ⟨rfl, hb⟩
  replace HS := Lib.hid (HS.out.below hb)
  replace HB := Lib.hid (HB.out.trans (hb.mono HB.out.size))
  replace HSK := Lib.hid ((HSK.out.below hb).mono hb.size)
  replace HLS := Lib.hid ((HLS.out.below hb).mono hb.size)
  clear hb
  rw [show canonB s.sk = true from HOK.out.csk]
  go_wp2_with fail
  refine (valid_any v3 v3.heap.size la lac (s.lost m) HLS.out (Nat.le_refl _)).mono ?_
  rintro e v4 ⟨rfl, hb⟩
  replace HS := Lib.hid (HS.out.below hb)
  replace HB := Lib.hid (HB.out.trans (hb.mono HB.out.size))
  replace HSK := Lib.hid ((HSK.out.below hb).mono hb.size)
  replace HLS := Lib.hid ((HLS.out.below hb).mono hb.size)
  clear hb
  rw [show canonB (s.lost m) = true from HLC.out]
  go_wp2_with fail
  have HCS := Lib.hid (show countL s.sk = countF s.sk by unfold countL; rw [if_pos HOK.out.csk])
  have HCL := Lib.hid (show countL (s.lost m) = countF (s.lost m) by unfold countL; rw [if_pos HLC.out])
  have hc1 := (countF_nonneg HOK.out.csk).1
  have hc2 := (countF_nonneg HLC.out).1
  have hu0 := HOK.out.u0
  have hu1 := HOK.out.un
  have hll := canonF_len2 (n := s.next) (show canonF (-1) (s.lost m) = true from HLC.out) (fun i hi => ((mem_gaps HOK.out).1 (mem_all_gaps (((lost_spec HOK.out hm1).2 i).1 hi).1)).1.2)
  have hkl := canonF_len2 (n := s.next) HOK.out.csk (fun i hi => (HOK.out.msk i hi).2)
  generalize s.lost m = LL at HLS HPT HAP HCL hc2 hll ⊢
  go_loopg [12] LL.length (fun g kv wr => ∃ (k : Nat), kv = .int .i64 (k : Int) ∧ g + k = LL.length ∧ Below v4.heap.size v4 wr)
  case atStart => exact ⟨0, rfl, rfl, Below.refl _ _⟩
  case round =>
    obtain ⟨k, rfl, hg, hbl⟩ := hrel
    have HB2 := Lib.hid hbl
    have HS2 := Lib.hid (HS.out.below hbl)
    have HSK2 := Lib.hid ((HSK.out.below hbl).mono hbl.size)
    have HLS2 := Lib.hid ((HLS.out.below hbl).mono hbl.size)
    clear hbl
    by_cases hk : k < LL.length
    · obtain ⟨b, off, rfl, hbk, hcs⟩ := HLS2.out.cells (by omega)
      obtain ⟨d0, d1⟩ := hcs k hk
      clear hcs
      have hkr : (k : Int) < (LL.length : Int) := by omega
      have hap := HAP.out LL[k] (List.getElem_mem hk)
      generalize LL[k] = x at d0 d1 hap
      obtain ⟨x1, x2⟩ := x
      dsimp only at d0 d1 hap
      obtain ⟨-, hx1, hx2, hgp⟩ := hap
      go_wp2_with fail
      refine (gaps_any wr wr.heap.size sa sac s.sk (x1, x2) HSK2.out (Nat.le_refl _)).mono ?_
      rintro e y1 ⟨vg, rfl, hO, hb⟩
      rw [hgp] at hO
      obtain ⟨ga, gc, rfl, hsp, -, -⟩ := hO.at (by simp)
      obtain ⟨gb, go, rfl, hgb, hgc⟩ := hsp.cells (by simp)
      obtain ⟨e0, e1⟩ := hgc 0 (by simp)
      simp only [List.getElem_cons_zero, Nat.zero_mul, Nat.add_zero] at e0 e1
      replace d0 := cell_bel2 d0 hbk hb
      replace d1 := cell_bel2 d1 hbk hb
      replace HB2 := Lib.hid (HB2.out.trans (hb.mono HB2.out.size))
      replace HS2 := Lib.hid (HS2.out.below hb)
      clear hO hsp hgc hb hgp
      rw [show ([(x1, x2)] : List Sp).length = 1 from rfl]
      go_wp2_with fail
      refine wp_region_held_drew (S := (fun W : World => W.cell? ⟨b, off + k * 2, none⟩ = some (.int .i64 x1) ∧ W.cell? ⟨b, off + k * 2 + 1, none⟩ = some (.int .i64 x2) ∧ W.cell? ⟨gb, go, none⟩ = some (.int .i64 x1) ∧ W.cell? ⟨gb, go + 1, none⟩ = some (.int .i64 x2))) (by kernel_rfl) (⟨d0, d1, e0, e1⟩) (fun hHeld => ?_)
      clear d0 d1 e0 e1
      replace HS2 := Lib.hid (HS2.out.below (Below.refl _ y1).drew)
      replace HB2 := Lib.hid HB2.out.drew
      generalize y1.drew = y2 at HS2 HB2 hHeld ⊢
      refine wpAnyH_take (i := 0) (v := ?_) (by simp only [List.getElem?_toArray, List.getElem?_cons_zero]; rfl) (by kernel_rfl) (by kernel_rfl) (by kernel_rfl) (by exact fun _ _ _ h => h) (Or.inl ⟨by rfl, ?_⟩) (by assumption) ?_
      rotate_left 1
      · intro w hSw; (obtain ⟨z0, z1, z2, z3⟩ := hSw); go_simp; (try with_reducible rfl)
      (try simp only [Act.put, List.setIfInBounds_toArray, List.set_cons_zero, List.set_cons_succ])
      refine wpAnyH_take (i := 1) (v := ?_) (by simp only [List.getElem?_toArray, List.getElem?_cons_succ, List.getElem?_cons_zero]; rfl) (by kernel_rfl) (by kernel_rfl) (by kernel_rfl) (by exact fun _ _ _ h => h) (Or.inl ⟨by rfl, ?_⟩) (by assumption) ?_
      rotate_left 1
      · intro w hSw; (obtain ⟨z0, z1, z2, z3⟩ := hSw); go_simp; (try with_reducible rfl)
      (try simp only [Act.put, List.setIfInBounds_toArray, List.set_cons_zero, List.set_cons_succ])
      refine wpAnyH_take (i := 2) (v := ?_) (by simp only [List.getElem?_toArray, List.getElem?_cons_succ, List.getElem?_cons_zero]; rfl) (by kernel_rfl) (by kernel_rfl) (by kernel_rfl) (by exact fun _ _ _ h => h) (Or.inl ⟨by rfl, ?_⟩) (by assumption) ?_
      rotate_left 1
      · intro w hSw; (obtain ⟨z0, z1, z2, z3⟩ := hSw); go_simp; (try with_reducible rfl)
      (try simp only [Act.put, List.setIfInBounds_toArray, List.set_cons_zero, List.set_cons_succ])
      refine wpAnyH_take (i := 3) (v := ?_) (by simp only [List.getElem?_toArray, List.getElem?_cons_succ, List.getElem?_cons_zero]; rfl) (by kernel_rfl) (by kernel_rfl) (by kernel_rfl) (by exact fun _ _ _ h => h) (Or.inl ⟨by rfl, ?_⟩) (by assumption) ?_
      rotate_left 1
      · intro w hSw; (obtain ⟨z0, z1, z2, z3⟩ := hSw); go_simp; (try with_reducible rfl)
      (try simp only [Act.put, List.setIfInBounds_toArray, List.set_cons_zero, List.set_cons_succ])
      refine wpAnyH_take (i := 4) (v := ?_) (by simp only [List.getElem?_toArray, List.getElem?_cons_succ, List.getElem?_cons_zero]; rfl) (by kernel_rfl) (by kernel_rfl) (by kernel_rfl) (by exact fun _ _ _ h => h) (Or.inl ⟨by rfl, ?_⟩) (by assumption) ?_
      rotate_left 1
      · intro w hSw; (obtain ⟨z0, z1, z2, z3⟩ := hSw); go_simp; (try with_reducible rfl)
      (try simp only [Act.put, List.setIfInBounds_toArray, List.set_cons_zero, List.set_cons_succ])
      refine wpAnyH_take (i := 5) (v := ?_) (by simp only [List.getElem?_toArray, List.getElem?_cons_succ, List.getElem?_cons_zero]; rfl) (by kernel_rfl) (by kernel_rfl) (by kernel_rfl) (by exact fun _ _ _ h => h) (Or.inl ⟨by rfl, ?_⟩) (by assumption) ?_
      rotate_left 1
      · intro w hSw; (obtain ⟨z0, z1, z2, z3⟩ := hSw); go_simp; (try with_reducible rfl)
      (try simp only [Act.put, List.setIfInBounds_toArray, List.set_cons_zero, List.set_cons_succ])
      refine wpAnyH_take (i := 6) (v := ?_) (by simp only [List.getElem?_toArray, List.getElem?_cons_succ, List.getElem?_cons_zero]; rfl) (by kernel_rfl) (by kernel_rfl) (by kernel_rfl) (by exact fun _ _ _ h => h) (Or.inl ⟨by rfl, ?_⟩) (by assumption) ?_
      rotate_left 1
      · intro w hSw; (obtain ⟨z0, z1, z2, z3⟩ := hSw); go_simp; (try with_reducible rfl)
      (try simp only [Act.put, List.setIfInBounds_toArray, List.set_cons_zero, List.set_cons_succ])
      refine wpAnyH_take (i := 7) (v := ?_) (by simp only [List.getElem?_toArray, List.getElem?_cons_succ, List.getElem?_cons_zero]; rfl) (by kernel_rfl) (by kernel_rfl) (by kernel_rfl) (by exact fun _ _ _ h => h) (Or.inl ⟨by rfl, ?_⟩) (by assumption) ?_
      rotate_left 1
      · intro w hSw; (obtain ⟨z0, z1, z2, z3⟩ := hSw); go_simp; (try with_reducible rfl)
      (try simp only [Act.put, List.setIfInBounds_toArray, List.set_cons_zero, List.set_cons_succ])
      refine wpAnyH_take (i := 8) (v := ?_) (by simp only [List.getElem?_toArray, List.getElem?_cons_succ, List.getElem?_cons_zero]; rfl) (by kernel_rfl) (by kernel_rfl) (by kernel_rfl) (by exact fun _ _ _ h => h) (Or.inl ⟨by rfl, ?_⟩) (by assumption) ?_
      rotate_left 1
      · intro w hSw; (obtain ⟨z0, z1, z2, z3⟩ := hSw); go_simp; (try with_reducible rfl)
      (try simp only [Act.put, List.setIfInBounds_toArray, List.set_cons_zero, List.set_cons_succ])
      refine wpAnyH_take (i := 9) (v := ?_) (by simp only [List.getElem?_toArray, List.getElem?_cons_succ, List.getElem?_cons_zero]; rfl) (by kernel_rfl) (by kernel_rfl) (by kernel_rfl) (by exact fun _ _ _ h => h) (Or.inl ⟨by rfl, ?_⟩) (by assumption) ?_
      rotate_left 1
      · intro w hSw; (obtain ⟨z0, z1, z2, z3⟩ := hSw); go_simp; (try with_reducible rfl)
      (try simp only [Act.put, List.setIfInBounds_toArray, List.set_cons_zero, List.set_cons_succ])
      refine wpAnyH_take (i := 10) (v := ?_) (by simp only [List.getElem?_toArray, List.getElem?_cons_succ, List.getElem?_cons_zero]; rfl) (by kernel_rfl) (by kernel_rfl) (by kernel_rfl) (by exact fun _ _ _ h => h) (Or.inl ⟨by rfl, ?_⟩) (by assumption) ?_
      rotate_left 1
      · intro w hSw; (obtain ⟨z0, z1, z2, z3⟩ := hSw); go_simp; (try with_reducible rfl)
      (try simp only [Act.put, List.setIfInBounds_toArray, List.set_cons_zero, List.set_cons_succ])
      refine wpAnyH_take (i := 11) (v := ?_) (by simp only [List.getElem?_toArray, List.getElem?_cons_succ, List.getElem?_cons_zero]; rfl) (by kernel_rfl) (by kernel_rfl) (by kernel_rfl) (by exact fun _ _ _ h => h) (Or.inl ⟨by rfl, ?_⟩) (by assumption) ?_
      rotate_left 1
      · intro w hSw; (obtain ⟨z0, z1, z2, z3⟩ := hSw); go_simp; (try with_reducible rfl)
      (try simp only [Act.put, List.setIfInBounds_toArray, List.set_cons_zero, List.set_cons_succ])
      refine wpAnyH_take (i := 12) (v := ?_) (by simp only [List.getElem?_toArray, List.getElem?_cons_succ, List.getElem?_cons_zero]; rfl) (by kernel_rfl) (by kernel_rfl) (by kernel_rfl) (by exact fun _ _ _ h => h) (Or.inl ⟨by rfl, ?_⟩) (by assumption) ?_
      rotate_left 1
      · intro w hSw; (obtain ⟨z0, z1, z2, z3⟩ := hSw); go_simp; (try with_reducible rfl)
      (try simp only [Act.put, List.setIfInBounds_toArray, List.set_cons_zero, List.set_cons_succ])
      refine wpAnyH_take (i := 13) (v := ?_) (by simp only [List.getElem?_toArray, List.getElem?_cons_succ, List.getElem?_cons_zero]; rfl) (by kernel_rfl) (by kernel_rfl) (by kernel_rfl) (by exact fun _ _ _ h => h) (Or.inl ⟨by rfl, ?_⟩) (by assumption) ?_
      rotate_left 1
      · intro w hSw; (obtain ⟨z0, z1, z2, z3⟩ := hSw); go_simp; (try with_reducible rfl)
      (try simp only [Act.put, List.setIfInBounds_toArray, List.set_cons_zero, List.set_cons_succ])
      refine wpAnyH_take (i := 14) (v := ?_) (by simp only [List.getElem?_toArray, List.getElem?_cons_succ, List.getElem?_cons_zero]; rfl) (by kernel_rfl) (by kernel_rfl) (by kernel_rfl) (by exact fun _ _ _ h => h) (Or.inl ⟨by rfl, ?_⟩) (by assumption) ?_
      rotate_left 1
      · intro w hSw; (obtain ⟨z0, z1, z2, z3⟩ := hSw); go_simp; (try with_reducible rfl)
      (try simp only [Act.put, List.setIfInBounds_toArray, List.set_cons_zero, List.set_cons_succ])
      refine wpAnyH_take (i := 15) (v := ?_) (by simp only [List.getElem?_toArray, List.getElem?_cons_succ, List.getElem?_cons_zero]; rfl) (by kernel_rfl) (by kernel_rfl) (by kernel_rfl) (by exact fun _ _ _ h => h) (Or.inl ⟨by rfl, ?_⟩) (by assumption) ?_
      rotate_left 1
      · intro w hSw; (obtain ⟨z0, z1, z2, z3⟩ := hSw); go_simp; (try with_reducible rfl)
      (try simp only [Act.put, List.setIfInBounds_toArray, List.set_cons_zero, List.set_cons_succ])
      refine wpAnyH_take (i := 16) (v := ?_) (by simp only [List.getElem?_toArray, List.getElem?_cons_succ, List.getElem?_cons_zero]; rfl) (by kernel_rfl) (by kernel_rfl) (by kernel_rfl) (by exact fun _ _ _ h => h) (Or.inl ⟨by rfl, ?_⟩) (by assumption) ?_
      rotate_left 1
      · intro w hSw; (obtain ⟨z0, z1, z2, z3⟩ := hSw); go_simp; (try with_reducible rfl)
      (try simp only [Act.put, List.setIfInBounds_toArray, List.set_cons_zero, List.set_cons_succ])
      refine wpAnyH_take (i := 17) (v := ?_) (by simp only [List.getElem?_toArray, List.getElem?_cons_succ, List.getElem?_cons_zero]; rfl) (by kernel_rfl) (by kernel_rfl) (by kernel_rfl) (by exact fun _ _ _ h => h) (Or.inl ⟨by rfl, ?_⟩) (by assumption) ?_
      rotate_left 1
      · intro w hSw; (obtain ⟨z0, z1, z2, z3⟩ := hSw); go_simp; (try with_reducible rfl)
      (try simp only [Act.put, List.setIfInBounds_toArray, List.set_cons_zero, List.set_cons_succ])
      refine wpAnyH_take (i := 18) (v := ?_) (by simp only [List.getElem?_toArray, List.getElem?_cons_succ, List.getElem?_cons_zero]; rfl) (by kernel_rfl) (by kernel_rfl) (by kernel_rfl) (by exact fun _ _ _ h => h) (Or.inl ⟨by rfl, ?_⟩) (by assumption) ?_
      rotate_left 1
      · intro w hSw; (obtain ⟨z0, z1, z2, z3⟩ := hSw); go_simp; (try with_reducible rfl)
      (try simp only [Act.put, List.setIfInBounds_toArray, List.set_cons_zero, List.set_cons_succ])
      refine wpAnyH_take (i := 19) (v := ?_) (by simp only [List.getElem?_toArray, List.getElem?_cons_succ, List.getElem?_cons_zero]; rfl) (by kernel_rfl) (by kernel_rfl) (by kernel_rfl) (by exact fun _ _ _ h => h) (Or.inl ⟨by rfl, ?_⟩) (by assumption) ?_
      rotate_left 1
      · intro w hSw; (obtain ⟨z0, z1, z2, z3⟩ := hSw); go_simp; (try with_reducible rfl)
      (try simp only [Act.put, List.setIfInBounds_toArray, List.set_cons_zero, List.set_cons_succ])
      refine wpAnyH_ready (rs := [20]) (by kernel_rfl) (by simp) ?_
      refine AllReadyH.cons (by simp only [List.getElem?_toArray, List.getElem?_cons_succ, List.getElem?_cons_zero]; rfl) (fun Kq hKq => ?_) AllReadyH.nil
      go_simp
      refine (scuna_any Bs _ s y2 HS2.out).mono ?_
      rintro e y3 ⟨rfl, hb⟩
      have hHeld0 := hHeld
      have hKn := (show (fun W : World => W.cell? ⟨b, off + k * 2, none⟩ = some (.int .i64 x1) ∧ W.cell? ⟨b, off + k * 2 + 1, none⟩ = some (.int .i64 x2) ∧ W.cell? ⟨gb, go, none⟩ = some (.int .i64 x1) ∧ W.cell? ⟨gb, go + 1, none⟩ = some (.int .i64 x2)) y3 from ⟨cell_bel2 hHeld0.1 (block_lt_of_cell hHeld0.1) hb, cell_bel2 hHeld0.2.1 (block_lt_of_cell hHeld0.2.1) hb, cell_bel2 hHeld0.2.2.1 (block_lt_of_cell hHeld0.2.2.1) hb, cell_bel2 hHeld0.2.2.2 (block_lt_of_cell hHeld0.2.2.2) hb⟩)
      replace HB2 := Lib.hid (HB2.out.trans (hb.mono HB2.out.size))
      replace HS2 := Lib.hid (HS2.out.below hb)
      clear hb hHeld0
      go_simp
      refine hKq.out _ _ (hKn) (fun hHeld2 => ?_)
      clear hKq Kq hHeld
      (try simp only [Act.put, List.setIfInBounds_toArray, List.set_cons_zero, List.set_cons_succ])
      have hHeld := hHeld2
      clear hHeld2
      refine wpAnyH_take (i := 21) (v := .bool false) (by simp only [List.getElem?_toArray, List.getElem?_cons_succ, List.getElem?_cons_zero]; rfl) (by kernel_rfl) (by kernel_rfl) (by kernel_rfl) (by exact fun _ _ _ h => h) (Or.inl ⟨by rfl, ?_⟩) (by assumption) ?_
      · intro w hSw; (obtain ⟨z0, z1, z2, z3⟩ := hSw); go_simp; (try first | omega | (rw [decide_eq_false_iff_not]; omega))
      (try simp only [Act.put, List.setIfInBounds_toArray, List.set_cons_zero, List.set_cons_succ])
      refine wpAnyH_take (i := 22) (v := ?_) (by simp only [List.getElem?_toArray, List.getElem?_cons_succ, List.getElem?_cons_zero]; rfl) (by kernel_rfl) (by kernel_rfl) (by kernel_rfl) (by exact fun _ _ _ h => h) (Or.inl ⟨by rfl, ?_⟩) (by assumption) ?_
      rotate_left 1
      · intro w hSw; (obtain ⟨z0, z1, z2, z3⟩ := hSw); go_simp; (try with_reducible rfl)
      (try simp only [Act.put, List.setIfInBounds_toArray, List.set_cons_zero, List.set_cons_succ])
      refine wpAnyH_take (i := 23) (v := ?_) (by simp only [List.getElem?_toArray, List.getElem?_cons_succ, List.getElem?_cons_zero]; rfl) (by kernel_rfl) (by kernel_rfl) (by kernel_rfl) (by exact fun _ _ _ h => h) (Or.inl ⟨by rfl, ?_⟩) (by assumption) ?_
      rotate_left 1
      · intro w hSw; (obtain ⟨z0, z1, z2, z3⟩ := hSw); go_simp; (try with_reducible rfl)
      (try simp only [Act.put, List.setIfInBounds_toArray, List.set_cons_zero, List.set_cons_succ])
      refine wpAnyH_take (i := 24) (v := ?_) (by simp only [List.getElem?_toArray, List.getElem?_cons_succ, List.getElem?_cons_zero]; rfl) (by kernel_rfl) (by kernel_rfl) (by kernel_rfl) (by exact fun _ _ _ h => h) (Or.inl ⟨by rfl, ?_⟩) (by assumption) ?_
      rotate_left 1
      · intro w hSw; (obtain ⟨z0, z1, z2, z3⟩ := hSw); go_simp; (try with_reducible rfl)
      (try simp only [Act.put, List.setIfInBounds_toArray, List.set_cons_zero, List.set_cons_succ])
      refine wpAnyH_take (i := 25) (v := ?_) (by simp only [List.getElem?_toArray, List.getElem?_cons_succ, List.getElem?_cons_zero]; rfl) (by kernel_rfl) (by kernel_rfl) (by kernel_rfl) (by exact fun _ _ _ h => h) (Or.inl ⟨by rfl, ?_⟩) (by assumption) ?_
      rotate_left 1
      · intro w hSw; (obtain ⟨z0, z1, z2, z3⟩ := hSw); go_simp; (try with_reducible rfl)
      (try simp only [Act.put, List.setIfInBounds_toArray, List.set_cons_zero, List.set_cons_succ])
      refine wpAnyH_take (i := 26) (v := ?_) (by simp only [List.getElem?_toArray, List.getElem?_cons_succ, List.getElem?_cons_zero]; rfl) (by kernel_rfl) (by kernel_rfl) (by kernel_rfl) (by exact fun _ _ _ h => h) (Or.inl ⟨by rfl, ?_⟩) (by assumption) ?_
      rotate_left 1
      · intro w hSw; (obtain ⟨z0, z1, z2, z3⟩ := hSw); go_simp; (try with_reducible rfl)
      (try simp only [Act.put, List.setIfInBounds_toArray, List.set_cons_zero, List.set_cons_succ])
      refine wpAnyH_take (i := 27) (v := ?_) (by simp only [List.getElem?_toArray, List.getElem?_cons_succ, List.getElem?_cons_zero]; rfl) (by kernel_rfl) (by kernel_rfl) (by kernel_rfl) (by exact fun _ _ _ h => h) (Or.inl ⟨by rfl, ?_⟩) (by assumption) ?_
      rotate_left 1
      · intro w hSw; (obtain ⟨z0, z1, z2, z3⟩ := hSw); go_simp; (try with_reducible rfl)
      (try simp only [Act.put, List.setIfInBounds_toArray, List.set_cons_zero, List.set_cons_succ])
      refine wpAnyH_take (i := 28) (v := ?_) (by simp only [List.getElem?_toArray, List.getElem?_cons_succ, List.getElem?_cons_zero]; rfl) (by kernel_rfl) (by kernel_rfl) (by kernel_rfl) (by exact fun _ _ _ h => h) (Or.inl ⟨by rfl, ?_⟩) (by assumption) ?_
      rotate_left 1
      · intro w hSw; (obtain ⟨z0, z1, z2, z3⟩ := hSw); go_simp; (try with_reducible rfl)
      (try simp only [Act.put, List.setIfInBounds_toArray, List.set_cons_zero, List.set_cons_succ])
      refine wpAnyH_take (i := 29) (v := ?_) (by simp only [List.getElem?_toArray, List.getElem?_cons_succ, List.getElem?_cons_zero]; rfl) (by kernel_rfl) (by kernel_rfl) (by kernel_rfl) (by exact fun _ _ _ h => h) (Or.inl ⟨by rfl, ?_⟩) (by assumption) ?_
      rotate_left 1
      · intro w hSw; (obtain ⟨z0, z1, z2, z3⟩ := hSw); go_simp; (try with_reducible rfl)
      (try simp only [Act.put, List.setIfInBounds_toArray, List.set_cons_zero, List.set_cons_succ])
      refine wpAnyH_ready (rs := [30]) (by kernel_rfl) (by simp) ?_
      refine AllReadyH.cons (by simp only [List.getElem?_toArray, List.getElem?_cons_succ, List.getElem?_cons_zero]; rfl) (fun Kq hKq => ?_) AllReadyH.nil
      go_simp
      refine (scnext_any Bs _ s y3 HS2.out).mono ?_
      rintro e y4 ⟨rfl, hb⟩
      have hHeld0 := hHeld
      have hKn := (show (fun W : World => W.cell? ⟨b, off + k * 2, none⟩ = some (.int .i64 x1) ∧ W.cell? ⟨b, off + k * 2 + 1, none⟩ = some (.int .i64 x2) ∧ W.cell? ⟨gb, go, none⟩ = some (.int .i64 x1) ∧ W.cell? ⟨gb, go + 1, none⟩ = some (.int .i64 x2)) y4 from ⟨cell_bel2 hHeld0.1 (block_lt_of_cell hHeld0.1) hb, cell_bel2 hHeld0.2.1 (block_lt_of_cell hHeld0.2.1) hb, cell_bel2 hHeld0.2.2.1 (block_lt_of_cell hHeld0.2.2.1) hb, cell_bel2 hHeld0.2.2.2 (block_lt_of_cell hHeld0.2.2.2) hb⟩)
      replace HB2 := Lib.hid (HB2.out.trans (hb.mono HB2.out.size))
      replace HS2 := Lib.hid (HS2.out.below hb)
      clear hb hHeld0
      go_simp
      refine hKq.out _ _ (hKn) (fun hHeld2 => ?_)
      clear hKq Kq hHeld
      (try simp only [Act.put, List.setIfInBounds_toArray, List.set_cons_zero, List.set_cons_succ])
      have hHeld := hHeld2
      clear hHeld2
      refine wpAnyH_take (i := 31) (v := .bool false) (by simp only [List.getElem?_toArray, List.getElem?_cons_succ, List.getElem?_cons_zero]; rfl) (by kernel_rfl) (by kernel_rfl) (by kernel_rfl) (by exact fun _ _ _ h => h) (Or.inl ⟨by rfl, ?_⟩) (by assumption) ?_
      · intro w hSw; (obtain ⟨z0, z1, z2, z3⟩ := hSw); go_simp; (try first | omega | (rw [decide_eq_false_iff_not]; omega))
      (try simp only [Act.put, List.setIfInBounds_toArray, List.set_cons_zero, List.set_cons_succ])
      refine wpAnyH_take (i := 32) (v := ?_) (by simp only [List.getElem?_toArray, List.getElem?_cons_succ, List.getElem?_cons_zero]; rfl) (by kernel_rfl) (by kernel_rfl) (by kernel_rfl) (by exact fun _ _ _ h => h) (Or.inl ⟨by rfl, ?_⟩) (by assumption) ?_
      rotate_left 1
      · intro w hSw; (obtain ⟨z0, z1, z2, z3⟩ := hSw); go_simp; (try with_reducible rfl)
      (try simp only [Act.put, List.setIfInBounds_toArray, List.set_cons_zero, List.set_cons_succ])
      refine wpAnyH_done (by kernel_rfl) ?_ _
      clear hHeld
      go_wp2_with fail
      go_roundg (gk - 1)
      case measure => omega
      case rel => exact ⟨k + 1, by first | go_num | (have hsm := hll; have e : wrap64 ((k : Int) + 1) = ((k + 1 : Nat) : Int) := (by unfold wrap64; omega); rw [e]), by omega, HB2.out⟩
    · go_wp2_with fail
      go_loopg [14] s.sk.length (fun g kv wr => ∃ (k : Nat), kv = .int .i64 (k : Int) ∧ g + k = s.sk.length ∧ Below v4.heap.size v4 wr)
      case atStart => exact ⟨0, rfl, rfl, HB2.out⟩
      case round =>
        clear HB2 HS2 HSK2 HLS2
        obtain ⟨k2, rfl, hg2, hbl⟩ := hrel
        have HB2 := Lib.hid hbl
        have HS2 := Lib.hid (HS.out.below hbl)
        have HSK2 := Lib.hid ((HSK.out.below hbl).mono hbl.size)
        have HLS2 := Lib.hid ((HLS.out.below hbl).mono hbl.size)
        clear hbl
        by_cases hk2 : k2 < s.sk.length
        · obtain ⟨b, off, rfl, hbk, hcs⟩ := HSK2.out.cells (by omega)
          obtain ⟨d0, d1⟩ := hcs k2 hk2
          clear hcs
          have hkr : (k2 : Int) < (s.sk.length : Int) := by omega
          have hap := HSI.out s.sk[k2] (List.getElem_mem hk2)
          generalize s.sk[k2] = x at d0 d1 hap
          obtain ⟨x1, x2⟩ := x
          dsimp only at d0 d1 hap
          obtain ⟨hx1, hx2⟩ := hap
          go_wp2_with fail
          refine wp_region_held_drew (S := (fun W : World => W.cell? ⟨b, off + k2 * 2, none⟩ = some (.int .i64 x1) ∧ W.cell? ⟨b, off + k2 * 2 + 1, none⟩ = some (.int .i64 x2))) (by kernel_rfl) (⟨d0, d1⟩) (fun hHeld => ?_)
          clear d0 d1
          replace HS2 := Lib.hid (HS2.out.below (Below.refl _ wr).drew)
          replace HB2 := Lib.hid HB2.out.drew
          generalize wr.drew = y2 at HS2 HB2 hHeld ⊢
          refine wpAnyH_take (i := 0) (v := ?_) (by simp only [List.getElem?_toArray, List.getElem?_cons_zero]; rfl) (by kernel_rfl) (by kernel_rfl) (by kernel_rfl) (by exact fun _ _ _ h => h) (Or.inl ⟨by rfl, ?_⟩) (by assumption) ?_
          rotate_left 1
          · intro w hSw; (obtain ⟨z0, z1⟩ := hSw); go_simp; (try with_reducible rfl)
          (try simp only [Act.put, List.setIfInBounds_toArray, List.set_cons_zero, List.set_cons_succ])
          refine wpAnyH_take (i := 1) (v := ?_) (by simp only [List.getElem?_toArray, List.getElem?_cons_succ, List.getElem?_cons_zero]; rfl) (by kernel_rfl) (by kernel_rfl) (by kernel_rfl) (by exact fun _ _ _ h => h) (Or.inl ⟨by rfl, ?_⟩) (by assumption) ?_
          rotate_left 1
          · intro w hSw; (obtain ⟨z0, z1⟩ := hSw); go_simp; (try with_reducible rfl)
          (try simp only [Act.put, List.setIfInBounds_toArray, List.set_cons_zero, List.set_cons_succ])
          refine wpAnyH_take (i := 2) (v := ?_) (by simp only [List.getElem?_toArray, List.getElem?_cons_succ, List.getElem?_cons_zero]; rfl) (by kernel_rfl) (by kernel_rfl) (by kernel_rfl) (by exact fun _ _ _ h => h) (Or.inl ⟨by rfl, ?_⟩) (by assumption) ?_
          rotate_left 1
          · intro w hSw; (obtain ⟨z0, z1⟩ := hSw); go_simp; (try with_reducible rfl)
          (try simp only [Act.put, List.setIfInBounds_toArray, List.set_cons_zero, List.set_cons_succ])
          refine wpAnyH_take (i := 3) (v := ?_) (by simp only [List.getElem?_toArray, List.getElem?_cons_succ, List.getElem?_cons_zero]; rfl) (by kernel_rfl) (by kernel_rfl) (by kernel_rfl) (by exact fun _ _ _ h => h) (Or.inl ⟨by rfl, ?_⟩) (by assumption) ?_
          rotate_left 1
          · intro w hSw; (obtain ⟨z0, z1⟩ := hSw); go_simp; (try with_reducible rfl)
          (try simp only [Act.put, List.setIfInBounds_toArray, List.set_cons_zero, List.set_cons_succ])
          refine wpAnyH_take (i := 4) (v := ?_) (by simp only [List.getElem?_toArray, List.getElem?_cons_succ, List.getElem?_cons_zero]; rfl) (by kernel_rfl) (by kernel_rfl) (by kernel_rfl) (by exact fun _ _ _ h => h) (Or.inl ⟨by rfl, ?_⟩) (by assumption) ?_
          rotate_left 1
          · intro w hSw; (obtain ⟨z0, z1⟩ := hSw); go_simp; (try with_reducible rfl)
          (try simp only [Act.put, List.setIfInBounds_toArray, List.set_cons_zero, List.set_cons_succ])
          refine wpAnyH_take (i := 5) (v := ?_) (by simp only [List.getElem?_toArray, List.getElem?_cons_succ, List.getElem?_cons_zero]; rfl) (by kernel_rfl) (by kernel_rfl) (by kernel_rfl) (by exact fun _ _ _ h => h) (Or.inl ⟨by rfl, ?_⟩) (by assumption) ?_
          rotate_left 1
          · intro w hSw; (obtain ⟨z0, z1⟩ := hSw); go_simp; (try with_reducible rfl)
          (try simp only [Act.put, List.setIfInBounds_toArray, List.set_cons_zero, List.set_cons_succ])
          refine wpAnyH_ready (rs := [6]) (by kernel_rfl) (by simp) ?_
          refine AllReadyH.cons (by simp only [List.getElem?_toArray, List.getElem?_cons_succ, List.getElem?_cons_zero]; rfl) (fun Kq hKq => ?_) AllReadyH.nil
          go_simp
          refine (scuna_any Bs _ s y2 HS2.out).mono ?_
          rintro e y3 ⟨rfl, hb⟩
          have hHeld0 := hHeld
          have hKn := (show (fun W : World => W.cell? ⟨b, off + k2 * 2, none⟩ = some (.int .i64 x1) ∧ W.cell? ⟨b, off + k2 * 2 + 1, none⟩ = some (.int .i64 x2)) y3 from ⟨cell_bel2 hHeld0.1 (block_lt_of_cell hHeld0.1) hb, cell_bel2 hHeld0.2 (block_lt_of_cell hHeld0.2) hb⟩)
          replace HB2 := Lib.hid (HB2.out.trans (hb.mono HB2.out.size))
          replace HS2 := Lib.hid (HS2.out.below hb)
          clear hb hHeld0
          go_simp
          refine hKq.out _ _ (hKn) (fun hHeld2 => ?_)
          clear hKq Kq hHeld
          (try simp only [Act.put, List.setIfInBounds_toArray, List.set_cons_zero, List.set_cons_succ])
          have hHeld := hHeld2
          clear hHeld2
          refine wpAnyH_take (i := 7) (v := .bool false) (by simp only [List.getElem?_toArray, List.getElem?_cons_succ, List.getElem?_cons_zero]; rfl) (by kernel_rfl) (by kernel_rfl) (by kernel_rfl) (by exact fun _ _ _ h => h) (Or.inl ⟨by rfl, ?_⟩) (by assumption) ?_
          · intro w hSw; (obtain ⟨z0, z1⟩ := hSw); go_simp; (try first | omega | (rw [decide_eq_false_iff_not]; omega))
          (try simp only [Act.put, List.setIfInBounds_toArray, List.set_cons_zero, List.set_cons_succ])
          refine wpAnyH_take (i := 8) (v := ?_) (by simp only [List.getElem?_toArray, List.getElem?_cons_succ, List.getElem?_cons_zero]; rfl) (by kernel_rfl) (by kernel_rfl) (by kernel_rfl) (by exact fun _ _ _ h => h) (Or.inl ⟨by rfl, ?_⟩) (by assumption) ?_
          rotate_left 1
          · intro w hSw; (obtain ⟨z0, z1⟩ := hSw); go_simp; (try with_reducible rfl)
          (try simp only [Act.put, List.setIfInBounds_toArray, List.set_cons_zero, List.set_cons_succ])
          refine wpAnyH_take (i := 9) (v := ?_) (by simp only [List.getElem?_toArray, List.getElem?_cons_succ, List.getElem?_cons_zero]; rfl) (by kernel_rfl) (by kernel_rfl) (by kernel_rfl) (by exact fun _ _ _ h => h) (Or.inl ⟨by rfl, ?_⟩) (by assumption) ?_
          rotate_left 1
          · intro w hSw; (obtain ⟨z0, z1⟩ := hSw); go_simp; (try with_reducible rfl)
          (try simp only [Act.put, List.setIfInBounds_toArray, List.set_cons_zero, List.set_cons_succ])
          refine wpAnyH_take (i := 10) (v := ?_) (by simp only [List.getElem?_toArray, List.getElem?_cons_succ, List.getElem?_cons_zero]; rfl) (by kernel_rfl) (by kernel_rfl) (by kernel_rfl) (by exact fun _ _ _ h => h) (Or.inl ⟨by rfl, ?_⟩) (by assumption) ?_
          rotate_left 1
          · intro w hSw; (obtain ⟨z0, z1⟩ := hSw); go_simp; (try with_reducible rfl)
          (try simp only [Act.put, List.setIfInBounds_toArray, List.set_cons_zero, List.set_cons_succ])
          refine wpAnyH_take (i := 11) (v := ?_) (by simp only [List.getElem?_toArray, List.getElem?_cons_succ, List.getElem?_cons_zero]; rfl) (by kernel_rfl) (by kernel_rfl) (by kernel_rfl) (by exact fun _ _ _ h => h) (Or.inl ⟨by rfl, ?_⟩) (by assumption) ?_
          rotate_left 1
          · intro w hSw; (obtain ⟨z0, z1⟩ := hSw); go_simp; (try with_reducible rfl)
          (try simp only [Act.put, List.setIfInBounds_toArray, List.set_cons_zero, List.set_cons_succ])
          refine wpAnyH_take (i := 12) (v := ?_) (by simp only [List.getElem?_toArray, List.getElem?_cons_succ, List.getElem?_cons_zero]; rfl) (by kernel_rfl) (by kernel_rfl) (by kernel_rfl) (by exact fun _ _ _ h => h) (Or.inl ⟨by rfl, ?_⟩) (by assumption) ?_
          rotate_left 1
          · intro w hSw; (obtain ⟨z0, z1⟩ := hSw); go_simp; (try with_reducible rfl)
          (try simp only [Act.put, List.setIfInBounds_toArray, List.set_cons_zero, List.set_cons_succ])
          refine wpAnyH_take (i := 13) (v := ?_) (by simp only [List.getElem?_toArray, List.getElem?_cons_succ, List.getElem?_cons_zero]; rfl) (by kernel_rfl) (by kernel_rfl) (by kernel_rfl) (by exact fun _ _ _ h => h) (Or.inl ⟨by rfl, ?_⟩) (by assumption) ?_
          rotate_left 1
          · intro w hSw; (obtain ⟨z0, z1⟩ := hSw); go_simp; (try with_reducible rfl)
          (try simp only [Act.put, List.setIfInBounds_toArray, List.set_cons_zero, List.set_cons_succ])
          refine wpAnyH_take (i := 14) (v := ?_) (by simp only [List.getElem?_toArray, List.getElem?_cons_succ, List.getElem?_cons_zero]; rfl) (by kernel_rfl) (by kernel_rfl) (by kernel_rfl) (by exact fun _ _ _ h => h) (Or.inl ⟨by rfl, ?_⟩) (by assumption) ?_
          rotate_left 1
          · intro w hSw; (obtain ⟨z0, z1⟩ := hSw); go_simp; (try with_reducible rfl)
          (try simp only [Act.put, List.setIfInBounds_toArray, List.set_cons_zero, List.set_cons_succ])
          refine wpAnyH_ready (rs := [15]) (by kernel_rfl) (by simp) ?_
          refine AllReadyH.cons (by simp only [List.getElem?_toArray, List.getElem?_cons_succ, List.getElem?_cons_zero]; rfl) (fun Kq hKq => ?_) AllReadyH.nil
          go_simp
          refine (scnext_any Bs _ s y3 HS2.out).mono ?_
          rintro e y4 ⟨rfl, hb⟩
          have hHeld0 := hHeld
          have hKn := (show (fun W : World => W.cell? ⟨b, off + k2 * 2, none⟩ = some (.int .i64 x1) ∧ W.cell? ⟨b, off + k2 * 2 + 1, none⟩ = some (.int .i64 x2)) y4 from ⟨cell_bel2 hHeld0.1 (block_lt_of_cell hHeld0.1) hb, cell_bel2 hHeld0.2 (block_lt_of_cell hHeld0.2) hb⟩)
          replace HB2 := Lib.hid (HB2.out.trans (hb.mono HB2.out.size))
          replace HS2 := Lib.hid (HS2.out.below hb)
          clear hb hHeld0
          go_simp
          refine hKq.out _ _ (hKn) (fun hHeld2 => ?_)
          clear hKq Kq hHeld
          (try simp only [Act.put, List.setIfInBounds_toArray, List.set_cons_zero, List.set_cons_succ])
          have hHeld := hHeld2
          clear hHeld2
          refine wpAnyH_take (i := 16) (v := .bool false) (by simp only [List.getElem?_toArray, List.getElem?_cons_succ, List.getElem?_cons_zero]; rfl) (by kernel_rfl) (by kernel_rfl) (by kernel_rfl) (by exact fun _ _ _ h => h) (Or.inl ⟨by rfl, ?_⟩) (by assumption) ?_
          · intro w hSw; (obtain ⟨z0, z1⟩ := hSw); go_simp; (try first | omega | (rw [decide_eq_false_iff_not]; omega))
          (try simp only [Act.put, List.setIfInBounds_toArray, List.set_cons_zero, List.set_cons_succ])
          refine wpAnyH_take (i := 17) (v := ?_) (by simp only [List.getElem?_toArray, List.getElem?_cons_succ, List.getElem?_cons_zero]; rfl) (by kernel_rfl) (by kernel_rfl) (by kernel_rfl) (by exact fun _ _ _ h => h) (Or.inl ⟨by rfl, ?_⟩) (by assumption) ?_
          rotate_left 1
          · intro w hSw; (obtain ⟨z0, z1⟩ := hSw); go_simp; (try with_reducible rfl)
          (try simp only [Act.put, List.setIfInBounds_toArray, List.set_cons_zero, List.set_cons_succ])
          refine wpAnyH_done (by kernel_rfl) ?_ _
          clear hHeld
          go_wp2_with fail
          go_roundg (gk - 1)
          case measure => omega
          case rel => exact ⟨k2 + 1, by first | go_num | (have hsm := hkl; have e : wrap64 ((k2 : Int) + 1) = ((k2 + 1 : Nat) : Int) := (by unfold wrap64; omega); rw [e]), by omega, HB2.out⟩
        · have hpt := HPT.out
          obtain ⟨p1, p2, p3⟩ := hpt
          have hpb : s.pipe m ≤ 2400 := by omega
          go_wp2_with fail
          refine (scnext_any Bs _ s _ HS2.out).mono ?_
          rintro e v41 ⟨rfl, hb⟩
          replace HB2 := Lib.hid (HB2.out.trans (hb.mono HB2.out.size))
          replace HS2 := Lib.hid (HS2.out.below hb)
          replace HSK2 := Lib.hid ((HSK2.out.below hb).mono hb.size)
          replace HLS2 := Lib.hid ((HLS2.out.below hb).mono hb.size)
          clear hb
          go_wp2_with fail
          refine (scuna_any Bs _ s _ HS2.out).mono ?_
          rintro e v42 ⟨rfl, hb⟩
          replace HB2 := Lib.hid (HB2.out.trans (hb.mono HB2.out.size))
          replace HS2 := Lib.hid (HS2.out.below hb)
          replace HSK2 := Lib.hid ((HSK2.out.below hb).mono hb.size)
          replace HLS2 := Lib.hid ((HLS2.out.below hb).mono hb.size)
          clear hb
          go_wp2_with fail
          refine (count_any v42 v42.heap.size sa sac s.sk HSK2.out (Nat.le_refl _)).mono ?_
          rintro e v43 ⟨rfl, hb⟩
          replace HB2 := Lib.hid (HB2.out.trans (hb.mono HB2.out.size))
          replace HS2 := Lib.hid (HS2.out.below hb)
          replace HSK2 := Lib.hid ((HSK2.out.below hb).mono hb.size)
          replace HLS2 := Lib.hid ((HLS2.out.below hb).mono hb.size)
          clear hb
          rw [HCS.out]
          go_wp2_with fail
          refine (count_any v43 v43.heap.size la lac LL HLS2.out (Nat.le_refl _)).mono ?_
          rintro e v44 ⟨rfl, hb⟩
          replace HB2 := Lib.hid (HB2.out.trans (hb.mono HB2.out.size))
          replace HS2 := Lib.hid (HS2.out.below hb)
          replace HSK2 := Lib.hid ((HSK2.out.below hb).mono hb.size)
          replace HLS2 := Lib.hid ((HLS2.out.below hb).mono hb.size)
          clear hb
          rw [HCL.out]
          go_wp2_with fail
          refine (scpipe_any Bs _ s m _ HOK.out HS2.out).mono ?_
          rintro e v45 ⟨rfl, hb⟩
          replace HB2 := Lib.hid (HB2.out.trans (hb.mono HB2.out.size))
          replace HS2 := Lib.hid (HS2.out.below hb)
          replace HSK2 := Lib.hid ((HSK2.out.below hb).mono hb.size)
          replace HLS2 := Lib.hid ((HLS2.out.below hb).mono hb.size)
          clear hb
          go_wp2_with fail
          refine (scpipe_any Bs _ s m _ HOK.out HS2.out).mono ?_
          rintro e v46 ⟨rfl, hb⟩
          replace HB2 := Lib.hid (HB2.out.trans (hb.mono HB2.out.size))
          replace HS2 := Lib.hid (HS2.out.below hb)
          replace HSK2 := Lib.hid ((HSK2.out.below hb).mono hb.size)
          replace HLS2 := Lib.hid ((HLS2.out.below hb).mono hb.size)
          clear hb
          go_wp2_with fail
          go_ret
          exact ⟨rfl, HB.out.trans (HB2.out.mono HB.out.size)⟩
end Go.Proofs.Ytncjeleabpodaaa
