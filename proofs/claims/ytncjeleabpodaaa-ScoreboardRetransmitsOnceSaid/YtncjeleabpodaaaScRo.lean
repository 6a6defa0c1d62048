/- ScoreboardRetransmitsOnce: its walk. -/
import Derived.Test.YtncjeleabpodaaaScMade
import Derived.Test.YtncjeleabpodaaaScSane
import Derived.Test.YtncjeleabpodaaaRgGaps
import Derived.Test.YtncjeleabpodaaaRgCount
import Derived.Deep.LoopGhost
import Derived.Deep.RegionHeld3
namespace Go.Proofs.Ytncjeleabpodaaa
open Go.RowKit Go.Shelf
/-- What the loop of ScoreboardRetransmitsOnce keeps. -/
structure RetI (s : Sc) (m first was : Int) (t : Sc) (sent : Int) : Prop where
  ok : t.Ok
  nx : t.next ≤ 1200
  cnt : countF (t.lost m) = first - sent
  pip : t.pipe m = was + sent
theorem RetI.ret {s : Sc} {m first was : Int} {t : Sc} {sent : Int} (h : RetI s m first was t sent) {x1 q : Int} (hr : t.inB (x1, q) = true ∧ countF ((t.retS (x1, q)).lost m) = countF (t.lost m) - (q - x1) ∧ (t.retS (x1, q)).pipe m = t.pipe m + (q - x1)) (hm : 1 ≤ m) :
    RetI s m first was (t.ret (x1, q)) (sent + q - x1) ∧ t.retE (x1, q) = 0 ∧ sent + q - x1 ≤ first := by
  obtain ⟨h1, h2, h3⟩ := hr
  have e : t.ret (x1, q) = t.retS (x1, q) := by unfold Sc.ret; rw [if_pos h1]
  have hc := h.cnt
  have hp := h.pip
  refine ⟨⟨h.ok.ret _, by rw [e]; exact h.nx, by rw [e, h2, hc]; omega, by rw [e, h3, hp]; omega⟩, by unfold Sc.retE; rw [if_pos h1], ?_⟩
  have := (countF_nonneg (lost_spec (h.ok.retS h1) hm).1).1
  omega
set_option maxRecDepth 100000 in
set_option maxHeartbeats 4000000 in
theorem walk_ScoreboardRetransmitsOnce (w : World) (a : Option Addr) (len cap : Nat) (cs : Nat → Cl) (hrow : IsCalls w a len cs) (mss : Int) (hw : (Lit.int .i64 mss).wf = true) :
    Calls Try.prog 5 #[.slice a len cap, .int .i64 mss] w fun e w' => e = .returned (.bool true) ∧ Below w.heap.size w w' := by
  have hmss : I64 mss := bounds_i64 hw
  clear hw
  have hml := hrow.1
  unfold maxLen at hml
  have HROW := Lib.hid hrow
  clear hrow
  go_enter Try.func5, Try.ntmps5
  go_wp2_with fail
  refine (sane_any _).mono ?_
  rintro e v0 ⟨rfl, hb0⟩
  have HB := Lib.hid hb0
  clear hb0
  go_wp2_with fail
  refine (made_any v0 _ len cap cs (HROW.out.below HB.out)).mono ?_
  rintro e w1 ⟨Bs, Br, lb, s, rfl, ok, hn, hsl, hNs0, hs, hb⟩
  have hNs : w.heap.size ≤ Bs := Nat.le_trans HB.out.size hNs0
  have HS := Lib.hid hs
  have HOK := Lib.hid ok
  replace HB := Lib.hid (HB.out.trans (hb.mono HB.out.size))
  clear hs hb ok hNs0 HROW hml
  have HPM := Lib.hid (fun W => pick_any mss 20 W hmss (by omega) (by omega))
  have hpm := pickV_bd mss 20 (by omega)
  generalize pickV mss 20 = m0 at HPM hpm ⊢
  go_wp2_with fail
  refine (HPM.out _).mono ?_
  rintro e w1' ⟨rfl, rfl⟩
  clear HPM
  go_wp2_with fail
  obtain ⟨m, hm⟩ : ∃ m, m = 1 + m0 := ⟨_, rfl⟩
  rw [← hm]
  have hm1 : 1 ≤ m := by omega
  have hm2 : m ≤ 20 := by omega
  clear hm hpm
  have HLC := Lib.hid (lost_spec HOK.out hm1).1
  have HPT := Lib.hid (partition HOK.out hm1)
  have hfb := (countF_nonneg HLC.out).1
  have hpt := HPT.out
  have hu0 := HOK.out.u0
  have hu1 := HOK.out.un
  have hsk := (countF_nonneg HOK.out.csk).1
  have hfn : countF (s.lost m) ≤ 1200 := by omega
  have hpn : 0 ≤ s.pipe m ∧ s.pipe m ≤ 2400 := by omega
  clear hpt hsk hu0 hu1 HPT
  refine (sclost_any Bs _ s m _ HOK.out HS.out).mono ?_
  rintro e v1 ⟨vl, rfl, hO, hb⟩
  replace HS := Lib.hid (HS.out.below hb)
  replace HB := Lib.hid (HB.out.trans (hb.mono HB.out.size))
  clear hb
  obtain ⟨la, lac, rfl, hsp, -, -⟩ := hO.at (canonF_len HLC.out)
  have HLS := Lib.hid hsp
  clear hO hsp
  go_wp2_with fail
  refine (count_any v1 v1.heap.size la lac (s.lost m) HLS.out (Nat.le_refl _)).mono ?_
  rintro e v2 ⟨rfl, hb⟩
  replace HS := Lib.hid (HS.out.below hb)
  replace HB := Lib.hid (HB.out.trans (hb.mono HB.out.size))
  replace HLS := Lib.hid ((HLS.out.below hb).mono hb.size)
  clear hb
  rw [show countL (s.lost m) = countF (s.lost m) by unfold countL; rw [if_pos (show canonB (s.lost m) = true from HLC.out)]]
  go_wp2_with fail
  clear HLS
  refine (scpipe_any Bs _ s m _ HOK.out HS.out).mono ?_
  rintro e v3 ⟨rfl, hb⟩
  replace HS := Lib.hid (HS.out.below hb)
  replace HB := Lib.hid (HB.out.trans (hb.mono HB.out.size))
  clear hb
  go_wp2_with fail
  have HI0 := Lib.hid (show RetI s m (countF (s.lost m)) (s.pipe m) s 0 from ⟨HOK.out, hn, by omega, by omega⟩)
  clear HLC HOK
  generalize countF (s.lost m) = first at hfb hfn HI0 ⊢
  generalize s.pipe m = was at hpn HI0 ⊢
  go_loopg [12, 13] 2000 (fun g sv kv wr => ∃ (k : Nat) (t : Sc) (sent : Int), kv = .int .i64 (k : Int) ∧ sv = .int .i64 sent ∧ g + k = 2000 ∧ (k : Int) ≤ sent ∧ sent ≤ first ∧ RetI s m first was t sent ∧ ScAt Bs lb t wr ∧ Below w.heap.size w wr)
  case atStart => exact ⟨0, s, 0, rfl, rfl, rfl, Int.le_refl _, hfb, HI0.out, HS.out, HB.out⟩
  case round =>
    clear HS HB HI0
    obtain ⟨k, t, sent, rfl, rfl, hg, hks, hsf, hI, hs, hb⟩ := hrel
    have HI := Lib.hid hI
    have HS := Lib.hid hs
    have HB := Lib.hid hb
    clear hI hs hb
    have hk2 : (k : Int) < 2000 := by omega
    have hs0 : 0 ≤ sent := by omega
    go_wp2_with fail
    refine (sclost_any Bs _ t m wr HI.out.ok HS.out).mono ?_
    rintro e y1 ⟨vl, rfl, hO, hb⟩
    replace HS := Lib.hid (HS.out.below hb)
    replace HB := Lib.hid (HB.out.trans (hb.mono HB.out.size))
    clear hb
    have HLC := Lib.hid (lost_spec HI.out.ok hm1).1
    obtain ⟨la2, lac2, rfl, hsp, -, -⟩ := hO.at (canonF_len HLC.out)
    have HLS := Lib.hid hsp
    clear hO hsp
    rcases Nat.eq_zero_or_pos (t.lost m).length with hz | hz
    · rw [hz]
      have HZ := Lib.hid (List.eq_nil_of_length_eq_zero hz)
      have HSF := Lib.hid (show sent = first by have h := HI.out.cnt; rw [HZ.out] at h; have e : countF [] = 0 := rfl; omega)
      have HPW := Lib.hid HI.out.pip
      clear HLS hz
      go_wp2_with fail
      refine (sclost_any Bs _ t m _ HI.out.ok HS.out).mono ?_
      rintro e y2 ⟨vl, rfl, hO, hb⟩
      rw [HZ.out] at hO
      obtain ⟨lb2, lc2, rfl, -⟩ := hO.val
      replace HS := Lib.hid (HS.out.below hb)
      replace HB := Lib.hid (HB.out.trans (hb.mono HB.out.size))
      clear hO hb
      go_wp2_with fail
      refine (scpipe_any Bs _ t m _ HI.out.ok HS.out).mono ?_
      rintro e y3 ⟨rfl, hb⟩
      replace HB := Lib.hid (HB.out.trans (hb.mono HB.out.size))
      clear hb
      rw [HPW.out]
      go_wp2_with fail
      go_ret
      refine ⟨?_, HB.out⟩
      have e1 := HSF.out
      subst e1
      simp
    · have hz2 : ¬ (t.lost m).length = 0 := by omega
      have hz3 : ¬ ((t.lost m).length : Int) = 0 := by omega
      obtain ⟨b, off, rfl, hbk, hcs⟩ := HLS.out.cells hz
      obtain ⟨d0, d1⟩ := hcs 0 hz
      have HMX := Lib.hid (List.getElem_mem hz)
      have hok := canonF_ok HLC.out (t.lost m)[0] (List.getElem_mem hz)
      simp only [Nat.zero_mul, Nat.add_zero] at d0 d1
      clear hcs HLS
      have HRL := Lib.hid (fun (x : Sp) h1 h2 h3 => ret_lost HI.out.ok hm1 HMX.out (x := x) h1 h2 h3)
      have HAP := Lib.hid (lost_apart HI.out.ok hm1 HMX.out)
      generalize (t.lost m)[0] = x0 at d0 d1 hok HRL HAP
      obtain ⟨x1, x2⟩ := x0
      dsimp only at d0 d1
      have hx : x1 < x2 ∧ 0 ≤ x1 ∧ x2 ≤ 1200 := by have h := HAP.out; have h2 := HI.out.nx; unfold okS at hok; dsimp only at hok h; omega
      have hl63 : (0 : Int) < ((t.lost m).length : Int) := by omega
      clear hok HAP
      go_wp2_with fail
      refine wp_region_held_drew (S := (fun W : World => W.cell? ⟨b, off, none⟩ = some (.int .i64 x1) ∧ W.cell? ⟨b, off + 1, none⟩ = some (.int .i64 x2))) (by kernel_rfl) (⟨d0, d1⟩) (fun hHeld => ?_)
      clear d0 d1
      replace HS := Lib.hid (HS.out.below (Below.refl _ y1).drew)
      replace HB := Lib.hid HB.out.drew
      generalize y1.drew = y2 at HS HB hHeld ⊢
      refine wpAnyH_take (i := 0) (v := ?_) (by simp only [List.getElem?_toArray, List.getElem?_cons_zero]; rfl) (by kernel_rfl) (by kernel_rfl) (by kernel_rfl) (by exact fun _ _ _ h => h) (Or.inl ⟨by rfl, ?_⟩) (by assumption) ?_
      rotate_left 1
      · intro w hSw; (obtain ⟨z0, z1⟩ := hSw); go_simp; (try with_reducible rfl)
      (try simp only [Act.put, List.setIfInBounds_toArray, List.set_cons_zero, List.set_cons_succ])
      refine wpAnyH_take (i := 1) (v := ?_) (by simp only [List.getElem?_toArray, List.getElem?_cons_succ, List.getElem?_cons_zero]; rfl) (by kernel_rfl) (by kernel_rfl) (by kernel_rfl) (by exact fun _ _ _ h => h) (Or.inl ⟨by rfl, ?_⟩) (by assumption) ?_
      rotate_left 1
      · intro w hSw; (obtain ⟨z0, z1⟩ := hSw); go_simp; (try with_reducible rfl)
      (try simp only [Act.put, List.setIfInBounds_toArray, List.set_cons_zero, List.set_cons_succ])
      refine wpAnyH_take (i := 2) (v := ?_) (by simp only [List.getElem?_toArray, List.getElem?_cons_succ, List.getElem?_cons_zero]; rfl) (by kernel_rfl) (by kernel_rfl) (by kernel_rfl) (by exact fun _ _ _ h => h) (Or.inl ⟨by rfl, ?_⟩) (by assumption) ?_
      rotate_left 1
      · intro w hSw; (obtain ⟨z0, z1⟩ := hSw); go_simp; (try with_reducible rfl)
      (try simp only [Act.put, List.setIfInBounds_toArray, List.set_cons_zero, List.set_cons_succ])
      refine wpAnyH_take (i := 3) (v := ?_) (by simp only [List.getElem?_toArray, List.getElem?_cons_succ, List.getElem?_cons_zero]; rfl) (by kernel_rfl) (by kernel_rfl) (by kernel_rfl) (by exact fun _ _ _ h => h) (Or.inl ⟨by rfl, ?_⟩) (by assumption) ?_
      rotate_left 1
      · intro w hSw; (obtain ⟨z0, z1⟩ := hSw); go_simp; (try with_reducible rfl)
      (try simp only [Act.put, List.setIfInBounds_toArray, List.set_cons_zero, List.set_cons_succ])
      refine wpAnyH_take (i := 4) (v := ?_) (by simp only [List.getElem?_toArray, List.getElem?_cons_succ, List.getElem?_cons_zero]; rfl) (by kernel_rfl) (by kernel_rfl) (by kernel_rfl) (by exact fun _ _ _ h => h) (Or.inl ⟨by rfl, ?_⟩) (by assumption) ?_
      rotate_left 1
      · intro w hSw; (obtain ⟨z0, z1⟩ := hSw); go_simp; (try with_reducible rfl)
      (try simp only [Act.put, List.setIfInBounds_toArray, List.set_cons_zero, List.set_cons_succ])
      refine wpAnyH_take (i := 5) (v := ?_) (by simp only [List.getElem?_toArray, List.getElem?_cons_succ, List.getElem?_cons_zero]; rfl) (by kernel_rfl) (by kernel_rfl) (by kernel_rfl) (by exact fun _ _ _ h => h) (Or.inl ⟨by rfl, ?_⟩) (by assumption) ?_
      rotate_left 1
      · intro w hSw; (obtain ⟨z0, z1⟩ := hSw); go_simp; (try with_reducible rfl)
      (try simp only [Act.put, List.setIfInBounds_toArray, List.set_cons_zero, List.set_cons_succ])
      refine wpAnyH_take (i := 6) (v := ?_) (by simp only [List.getElem?_toArray, List.getElem?_cons_succ, List.getElem?_cons_zero]; rfl) (by kernel_rfl) (by kernel_rfl) (by kernel_rfl) (by exact fun _ _ _ h => h) (Or.inl ⟨by rfl, ?_⟩) (by assumption) ?_
      rotate_left 1
      · intro w hSw; (obtain ⟨z0, z1⟩ := hSw); go_simp; (try with_reducible rfl)
      (try simp only [Act.put, List.setIfInBounds_toArray, List.set_cons_zero, List.set_cons_succ])
      refine wpAnyH_take (i := 7) (v := ?_) (by simp only [List.getElem?_toArray, List.getElem?_cons_succ, List.getElem?_cons_zero]; rfl) (by kernel_rfl) (by kernel_rfl) (by kernel_rfl) (by exact fun _ _ _ h => h) (Or.inl ⟨by rfl, ?_⟩) (by assumption) ?_
      rotate_left 1
      · intro w hSw; (obtain ⟨z0, z1⟩ := hSw); go_simp; (try with_reducible rfl)
      (try simp only [Act.put, List.setIfInBounds_toArray, List.set_cons_zero, List.set_cons_succ])
      refine wpAnyH_take (i := 8) (v := ?_) (by simp only [List.getElem?_toArray, List.getElem?_cons_succ, List.getElem?_cons_zero]; rfl) (by kernel_rfl) (by kernel_rfl) (by kernel_rfl) (by exact fun _ _ _ h => h) (Or.inl ⟨by rfl, ?_⟩) (by assumption) ?_
      rotate_left 1
      · intro w hSw; (obtain ⟨z0, z1⟩ := hSw); go_simp; (try with_reducible rfl)
      (try simp only [Act.put, List.setIfInBounds_toArray, List.set_cons_zero, List.set_cons_succ])
      refine wpAnyH_take (i := 9) (v := ?_) (by simp only [List.getElem?_toArray, List.getElem?_cons_succ, List.getElem?_cons_zero]; rfl) (by kernel_rfl) (by kernel_rfl) (by kernel_rfl) (by exact fun _ _ _ h => h) (Or.inl ⟨by rfl, ?_⟩) (by assumption) ?_
      rotate_left 1
      · intro w hSw; (obtain ⟨z0, z1⟩ := hSw); go_simp; (try with_reducible rfl)
      (try simp only [Act.put, List.setIfInBounds_toArray, List.set_cons_zero, List.set_cons_succ])
      refine wpAnyH_take (i := 10) (v := ?_) (by simp only [List.getElem?_toArray, List.getElem?_cons_succ, List.getElem?_cons_zero]; rfl) (by kernel_rfl) (by kernel_rfl) (by kernel_rfl) (by exact fun _ _ _ h => h) (Or.inl ⟨by rfl, ?_⟩) (by assumption) ?_
      rotate_left 1
      · intro w hSw; (obtain ⟨z0, z1⟩ := hSw); go_simp; (try with_reducible rfl)
      (try simp only [Act.put, List.setIfInBounds_toArray, List.set_cons_zero, List.set_cons_succ])
      refine wpAnyH_take (i := 11) (v := ?_) (by simp only [List.getElem?_toArray, List.getElem?_cons_succ, List.getElem?_cons_zero]; rfl) (by kernel_rfl) (by kernel_rfl) (by kernel_rfl) (by exact fun _ _ _ h => h) (Or.inl ⟨by rfl, ?_⟩) (by assumption) ?_
      rotate_left 1
      · intro w hSw; (obtain ⟨z0, z1⟩ := hSw); go_simp; (try with_reducible rfl)
      (try simp only [Act.put, List.setIfInBounds_toArray, List.set_cons_zero, List.set_cons_succ])
      refine wpAnyH_take (i := 12) (v := ?_) (by simp only [List.getElem?_toArray, List.getElem?_cons_succ, List.getElem?_cons_zero]; rfl) (by kernel_rfl) (by kernel_rfl) (by kernel_rfl) (by exact fun _ _ _ h => h) (Or.inl ⟨by rfl, ?_⟩) (by assumption) ?_
      rotate_left 1
      · intro w hSw; (obtain ⟨z0, z1⟩ := hSw); go_simp; (try with_reducible rfl)
      (try simp only [Act.put, List.setIfInBounds_toArray, List.set_cons_zero, List.set_cons_succ])
      refine wpAnyH_take (i := 13) (v := ?_) (by simp only [List.getElem?_toArray, List.getElem?_cons_succ, List.getElem?_cons_zero]; rfl) (by kernel_rfl) (by kernel_rfl) (by kernel_rfl) (by exact fun _ _ _ h => h) (Or.inl ⟨by rfl, ?_⟩) (by assumption) ?_
      rotate_left 1
      · intro w hSw; (obtain ⟨z0, z1⟩ := hSw); go_simp; (try with_reducible rfl)
      (try simp only [Act.put, List.setIfInBounds_toArray, List.set_cons_zero, List.set_cons_succ])
      rw [show IntKind.i64.wrap (x1 + m) = x1 + m from IntWalk.i64_in _ (by omega)]
      refine wpAnyH_take (i := 14) (v := ?_) (by simp only [List.getElem?_toArray, List.getElem?_cons_succ, List.getElem?_cons_zero]; rfl) (by kernel_rfl) (by kernel_rfl) (by kernel_rfl) (by exact fun _ _ _ h => h) (Or.inl ⟨by rfl, ?_⟩) (by assumption) ?_
      rotate_left 1
      · intro w hSw; (obtain ⟨z0, z1⟩ := hSw); go_simp; (try with_reducible rfl)
      (try simp only [Act.put, List.setIfInBounds_toArray, List.set_cons_zero, List.set_cons_succ])
      obtain ⟨q, hq⟩ : ∃ q, q = min x2 (x1 + m) := ⟨_, rfl⟩
      first | rw [← hq] | rw [show (if x1 + m < x2 then x1 + m else x2) = q by rw [hq]; split <;> omega]
      have hq2 : x1 < q ∧ q ≤ x2 := by omega
      clear hq
      refine wpAnyH_take (i := 15) (v := ?_) (by simp only [List.getElem?_toArray, List.getElem?_cons_succ, List.getElem?_cons_zero]; rfl) (by kernel_rfl) (by kernel_rfl) (by kernel_rfl) (by exact fun _ _ _ h => h) (Or.inl ⟨by rfl, ?_⟩) (by assumption) ?_
      rotate_left 1
      · intro w hSw; (obtain ⟨z0, z1⟩ := hSw); go_simp; (try with_reducible rfl)
      (try simp only [Act.put, List.setIfInBounds_toArray, List.set_cons_zero, List.set_cons_succ])
      refine wpAnyH_ready (rs := [16]) (by kernel_rfl) (by simp) ?_
      refine AllReadyH.cons (by simp only [List.getElem?_toArray, List.getElem?_cons_succ, List.getElem?_cons_zero]; rfl) (fun Kq hKq => ?_) AllReadyH.nil
      go_simp
      have hby := rcBel y2 (.cells #[.int .i64 0, .int .i64 0] 51)
      have hKa := (show (fun W : World => W.cell? ⟨b, off, none⟩ = some (.int .i64 x1) ∧ W.cell? ⟨b, off + 1, none⟩ = some (.int .i64 x2)) (y2.alloc (.cells #[.int .i64 0, .int .i64 0] 51)) from ⟨cell_bel2 hHeld.1 (block_lt_of_cell hHeld.1) hby, cell_bel2 hHeld.2 (block_lt_of_cell hHeld.2) hby⟩)
      have a0 := At.new (W := y2) (i := 0) (v := .int .i64 0) (vs := #[.int .i64 0, .int .i64 0]) 51 rfl rfl
      have a1 := At.new (W := y2) (i := 1) (v := .int .i64 0) (vs := #[.int .i64 0, .int .i64 0]) 51 rfl rfl
      have HBY := Lib.hid hby
      have hYl := block_lt_of_cell hHeld.1
      refine hKq.out _ _ (hKa) (fun hHeld2 => ?_)
      clear hKq Kq hHeld
      (try simp only [Act.put, List.setIfInBounds_toArray, List.set_cons_zero, List.set_cons_succ])
      have hHeld := hHeld2
      clear hHeld2
      clear hKa hby
      obtain ⟨Yb, hYb⟩ : ∃ Yb, Yb = y2.heap.size := ⟨_, rfl⟩
      rw [← hYb] at a0 a1 HBY ⊢
      have HYE := Lib.hid hYb
      dsimp only at hYl
      have hbY : b ≠ Yb := by omega
      have hYs : Bs ≠ Yb := by have := HS.out.lt; omega
      have hYN : w.heap.size ≤ Yb := by have := HS.out.lt; omega
      clear hYb hYl
      generalize y2.alloc (.cells #[.int .i64 0, .int .i64 0] 51) = y3 at HBY a0 a1 hHeld ⊢
      obtain ⟨z0, g0⟩ := a0
      obtain ⟨z1, g1⟩ := a1
      refine wpAnyH_ready (rs := [17]) (by kernel_rfl) (by simp) ?_
      refine AllReadyH.cons (by simp only [List.getElem?_toArray, List.getElem?_cons_succ, List.getElem?_cons_zero]; rfl) (fun Kq hKq => ?_) AllReadyH.nil
      go_simp
      have hKs := (show (fun W : World => W.cell? ⟨b, off, none⟩ = some (.int .i64 x1) ∧ W.cell? ⟨b, off + 1, none⟩ = some (.int .i64 x2)) ((y3.setCell ⟨Yb, 0, none⟩ (.int .i64 x1)).setCell ⟨Yb, 1, none⟩ (.int .i64 q)) from ⟨(World.cell?_setCell_other _ _ _ _ (by intro e; have e2 := congrArg Addr.block e; dsimp only at e2; omega)).trans ((World.cell?_setCell_other _ _ _ _ (by intro e; have e2 := congrArg Addr.block e; dsimp only at e2; omega)).trans hHeld.1), (World.cell?_setCell_other _ _ _ _ (by intro e; have e2 := congrArg Addr.block e; dsimp only at e2; omega)).trans ((World.cell?_setCell_other _ _ _ _ (by intro e; have e2 := congrArg Addr.block e; dsimp only at e2; omega)).trans hHeld.2)⟩)
      have a0 := ((show At Yb 0 _ y3 from ⟨z0, g0⟩).set (.int .i64 x1)).other ⟨Yb, 1, none⟩ (.int .i64 q) (by intro e; cases e)
      have a1 := ((show At Yb 1 _ y3 from ⟨z1, g1⟩).other ⟨Yb, 0, none⟩ (.int .i64 x1) (by intro e; cases e)).set (.int .i64 q)
      replace HBY := Lib.hid ((HBY.out.setCell (p := ⟨Yb, 0, none⟩) (Nat.le_refl _) (.int .i64 x1)).setCell (p := ⟨Yb, 1, none⟩) (Nat.le_refl _) (.int .i64 q))
      clear z0 z1 g0 g1
      refine hKq.out _ _ (hKs) (fun hHeld2 => ?_)
      clear hKq Kq hHeld
      (try simp only [Act.put, List.setIfInBounds_toArray, List.set_cons_zero, List.set_cons_succ])
      have hHeld := hHeld2
      clear hHeld2
      clear hKs
      generalize (y3.setCell ⟨Yb, 0, none⟩ (.int .i64 x1)).setCell ⟨Yb, 1, none⟩ (.int .i64 q) = y4 at HBY a0 a1 hHeld ⊢
      refine wpAnyH_done (by kernel_rfl) ?_ _
      clear hHeld
      replace HS := Lib.hid (HS.out.below (show Below y2.heap.size y2 y4 by rw [← HYE.out]; exact HBY.out))
      replace HB := Lib.hid (HB.out.trans (HBY.out.mono hYN))
      clear HBY HYE
      have HRI := Lib.hid (HI.out.ret (HRL.out (x1, q) rfl hq2.1 hq2.2) hm1)
      obtain ⟨z0, g0⟩ := a0
      obtain ⟨z1, g1⟩ := a1
      go_wp2_with fail
      refine (scretransmitted_any Bs _ t x1 q _ HI.out.ok HS.out).mono ?_
      rintro e y5 ⟨rfl, hS, hc⟩
      rw [HRI.out.2.1]
      replace z0 := cell_chg z0 hc (fun e => hYs e.symm)
      replace z1 := cell_chg z1 hc (fun e => hYs e.symm)
      replace HB := Lib.hid (HB.out.trans (hc.below hNs HS.out.lt))
      replace HS := Lib.hid hS
      clear hS hc
      go_wp2_with fail
      go_roundg (gk - 1)
      case measure => omega
      case rel => exact ⟨k + 1, t.ret (x1, q), sent + q - x1, by go_num, rfl, by omega, by omega, HRI.out.2.2, HRI.out.1, HS.out, HB.out⟩
end Go.Proofs.Ytncjeleabpodaaa
