/- ScoreboardDrains: its walk. -/
import Derived.Test.YtncjeleabpodaaaScMade
import Derived.Test.YtncjeleabpodaaaScSane
import Derived.Test.YtncjeleabpodaaaRgGaps
import Derived.Test.YtncjeleabpodaaaRgCount
import Derived.Deep.LoopGhost
import Derived.Deep.RegionHeld3
namespace Go.Proofs.Ytncjeleabpodaaa
open Go.RowKit Go.Shelf
theorem ackedAll2 {s : Sc} (h : s.Ok) : s.acked s.next [] = { s with una := s.next, sk := [], ag := [] } ∧ s.ackN s.next [] = s.next - s.una - countF s.sk ∧ s.ackE s.next [] = 0 := by
  obtain ⟨a, b, c⟩ := ack_all h
  exact ⟨by unfold Sc.acked; rw [if_pos a, b], c, by unfold Sc.ackE; rw [if_pos a]⟩
def endS (t : Sc) : Sc := { t with una := t.next, sk := [], ag := [] }
theorem drEnd {t : Sc} (h : t.Ok) : (endS t).Ok ∧ ∀ m, 1 ≤ m → (endS t).lost m = [] ∧ (endS t).pipe m = 0 := by
  have ho : (endS t).Ok := by have := h.acked t.next []; rw [(ackedAll2 h).1] at this; exact this
  have hmn : (endS t).mark ≤ (endS t).next := h.mn
  refine ⟨ho, fun m hm => ⟨?_, ?_⟩⟩
  · rw [lost_empty ho rfl rfl hm]
    unfold one
    rw [if_neg]
    show ¬ t.next < min t.next t.mark
    omega
  · rw [pipe_empty ho rfl rfl hm]
    show t.next - max t.next (min t.next t.mark) = 0
    omega
theorem drEnd2 {t : Sc} (h : t.Ok) {u : Int} (h0 : 0 ≤ u) (h1 : u ≤ t.next) : (endS t).acked u [] = endS t ∧ (endS t).ackN u [] = 0 ∧ (endS t).ackE u [] = 0 := by
  obtain ⟨a, b, c⟩ := ack_none (drEnd h).1 (u := u) h0 h1
  exact ⟨by unfold Sc.acked; rw [if_pos a, c], b, by unfold Sc.ackE; rw [if_pos a]⟩
/-- What the loop of ScoreboardDrains keeps. -/
structure DrI (s : Sc) (t : Sc) (all : Int) : Prop where
  ok : t.Ok
  una : t.una = s.una
  next : t.next = s.next
  nx : t.next ≤ 1200
  cnt : all = countF t.sk
  bd : 0 ≤ all ∧ all ≤ 1200
theorem sk_bd {t : Sc} (h : t.Ok) : countF t.sk ≤ t.next - t.una := by
  obtain ⟨-, -, -, -, -, h6⟩ := counts h 1 (by decide)
  have := (countF_nonneg (gaps_canon t)).1
  omega
theorem DrI.start {s : Sc} (h : s.Ok) (hn : s.next ≤ 1200) : DrI s s.timeout 0 := ⟨h.timeout, rfl, rfl, hn, rfl, by omega⟩
theorem DrI.ack {s t : Sc} {all : Int} (h : DrI s t all) {l : List Sp} (hl : ∀ y ∈ l, 0 ≤ y.1 ∧ y.1 < y.2 ∧ y.2 ≤ t.next) : DrI s (t.acked s.una l) (all + t.ackN s.una l) ∧ t.ackE s.una l = 0 ∧ 0 ≤ t.ackN s.una l := by
  have h0 := h.ok.u0
  have h1 := h.ok.un
  have hu := h.una
  have hb : t.ackB s.una l = true := Sc.ackB_iff.2 ⟨⟨by omega, by omega⟩, fun x hx => Sc.inB_iff.2 (hl x hx)⟩
  obtain ⟨n1, n2⟩ := ackN_nonneg h.ok hb (by omega)
  have hok := h.ok.acked s.una l
  have e : t.acked s.una l = t.ackS s.una l := by unfold Sc.acked; rw [if_pos hb]
  have hb2 := sk_bd hok
  have h0' := hok.u0
  have hc := h.cnt
  have hn := h.nx
  have hcn := (countF_nonneg hok.csk).1
  rw [e] at hb2 h0' hcn
  have en : (t.ackS s.una l).next = t.next := rfl
  refine ⟨⟨hok, ?_, by rw [e]; exact h.next, by rw [e]; exact hn, by rw [e, n2, hc]; omega, by rw [n2, hc]; omega⟩, by unfold Sc.ackE; rw [if_pos hb], n1⟩
  rw [e]
  show max t.una s.una = s.una
  omega
set_option maxRecDepth 100000 in
set_option maxHeartbeats 4000000 in
theorem walk_ScoreboardDrains (w : World) (a : Option Addr) (len cap : Nat) (cs : Nat → Cl) (hrow : IsCalls w a len cs) (a2 : Option Addr) (len2 cap2 : Nat) (zs : Nat → Sp) (hspans : IsSpans w a2 len2 zs) (mss : Int) (hw : (Lit.int .i64 mss).wf = true) :
    Calls Try.prog 6 #[.slice a len cap, .slice a2 len2 cap2, .int .i64 mss] w fun e w' => e = .returned (.bool true) ∧ Below w.heap.size w w' := by
  have hmss : I64 mss := bounds_i64 hw
  clear hw
  have HX := Lib.hid hspans
  have hxl := hspans.1
  unfold maxLen at hxl
  clear hspans
  have hml := hrow.1
  unfold maxLen at hml
  have HROW := Lib.hid hrow
  clear hrow
  go_enter Try.func6, Try.ntmps6
  go_wp2_with fail
  refine (sane_any _).mono ?_
  rintro e v0 ⟨rfl, hb0⟩
  have HB := Lib.hid hb0
  clear hb0
  go_wp2_with fail
  refine (made_any v0 _ len cap cs (HROW.out.below HB.out)).mono ?_
  rintro e w1 ⟨Bs, Br, lb, s, rfl, ok, hn, hsl, hNs0, hs, hb⟩
  have hNs : w.heap.size ≤ Bs := Nat.le_trans HB.out.size hNs0
  have HS := Lib.hid hs
  have HOK := Lib.hid ok
  replace HB := Lib.hid (HB.out.trans (hb.mono HB.out.size))
  clear hs hb ok hNs0 HROW hml
  have HPM := Lib.hid (fun W => pick_any mss 20 W hmss (by omega) (by omega))
  have hpm := pickV_bd mss 20 (by omega)
  generalize pickV mss 20 = m0 at HPM hpm ⊢
  go_wp2_with fail
  refine (HPM.out _).mono ?_
  rintro e w1' ⟨rfl, rfl⟩
  clear HPM
  go_wp2_with fail
  obtain ⟨m, hm⟩ : ∃ m, m = 1 + m0 := ⟨_, rfl⟩
  rw [← hm]
  have hm1 : 1 ≤ m := by omega
  have hm2 : m ≤ 20 := by omega
  clear hm hpm
  refine (sctimeout_any Bs _ s _ HS.out).mono ?_
  rintro e v1 ⟨rfl, hS, hc⟩
  replace HB := Lib.hid (HB.out.trans (hc.below hNs HS.out.lt))
  replace HS := Lib.hid hS
  clear hS hc
  go_wp2_with fail
  have HT0 := Lib.hid (DrI.start HOK.out hn)
  have HOT := Lib.hid HOK.out.timeout
  have hu0 := HOK.out.u0
  have hu1 := HOK.out.un
  refine (scuna_any Bs _ s.timeout _ HS.out).mono ?_
  rintro e v2 ⟨rfl, hb⟩
  replace HS := Lib.hid (HS.out.below hb)
  replace HB := Lib.hid (HB.out.trans (hb.mono HB.out.size))
  clear hb
  rw [show s.timeout.una = s.una from rfl]
  go_wp2_with fail
  clear HOK HOT
  go_loopg [13, 14] 12 (fun g av kv wr => ∃ (k : Nat) (t : Sc) (all : Int), kv = .int .i64 (k : Int) ∧ av = .int .i64 all ∧ g + k = 12 ∧ k ≤ len2 ∧ DrI s t all ∧ ScAt Bs lb t wr ∧ Below w.heap.size w wr)
  case atStart => exact ⟨0, s.timeout, 0, rfl, rfl, rfl, Nat.zero_le _, HT0.out, HS.out, HB.out⟩
  case round =>
    clear HS HB HT0
    obtain ⟨k, t, all, rfl, rfl, hg, hkl, hI, hs, hb⟩ := hrel
    have HI := Lib.hid hI
    have HS := Lib.hid hs
    have HB := Lib.hid hb
    clear hs hb
    have hab : 0 ≤ all ∧ all ≤ 1200 := by have := hI.bd; omega
    clear hI
    by_cases hlt : k < len2
    · by_cases hl2 : k < 12
      · obtain ⟨b, off, rfl, hbs, hcs⟩ := HX.out.2 (by omega)
        obtain ⟨d0, d1, hI1, hI2⟩ := hcs k hlt
        clear hcs
        replace d0 := cell_bel2 d0 hbs HB.out
        replace d1 := cell_bel2 d1 hbs HB.out
        generalize zs k = x at d0 d1 hI1 hI2
        obtain ⟨x1, x2⟩ := x
        dsimp only at d0 d1 hI1 hI2
        have f1 : (k : Int) < (len2 : Int) := by omega
        have f2 : (k : Int) < 12 := by omega
        have htn := HI.out.nx
        have hn40 := HI.out.ok.n40
        go_wp2_with fail
        refine wp_region_held_drew (S := (fun W : World => W.cell? ⟨b, off + k * 2, none⟩ = some (.int .i64 x1) ∧ W.cell? ⟨b, off + k * 2 + 1, none⟩ = some (.int .i64 x2))) (by kernel_rfl) (⟨d0, d1⟩) (fun hHeld => ?_)
        clear d0 d1
        replace HS := Lib.hid (HS.out.below (Below.refl _ wr).drew)
        replace HB := Lib.hid HB.out.drew
        generalize wr.drew = y2 at HS HB hHeld ⊢
        refine wpAnyH_take (i := 0) (v := ?_) (by simp only [List.getElem?_toArray, List.getElem?_cons_zero]; rfl) (by kernel_rfl) (by kernel_rfl) (by kernel_rfl) (by exact fun _ _ _ h => h) (Or.inl ⟨by rfl, ?_⟩) (by assumption) ?_
        rotate_left 1
        · intro w hSw; (obtain ⟨z0, z1⟩ := hSw); go_simp; (try with_reducible rfl)
        (try simp only [Act.put, List.setIfInBounds_toArray, List.set_cons_zero, List.set_cons_succ])
        refine wpAnyH_take (i := 1) (v := ?_) (by simp only [List.getElem?_toArray, List.getElem?_cons_succ, List.getElem?_cons_zero]; rfl) (by kernel_rfl) (by kernel_rfl) (by kernel_rfl) (by exact fun _ _ _ h => h) (Or.inl ⟨by rfl, ?_⟩) (by assumption) ?_
        rotate_left 1
        · intro w hSw; (obtain ⟨z0, z1⟩ := hSw); go_simp; (try with_reducible rfl)
        (try simp only [Act.put, List.setIfInBounds_toArray, List.set_cons_zero, List.set_cons_succ])
        refine wpAnyH_take (i := 2) (v := ?_) (by simp only [List.getElem?_toArray, List.getElem?_cons_succ, List.getElem?_cons_zero]; rfl) (by kernel_rfl) (by kernel_rfl) (by kernel_rfl) (by exact fun _ _ _ h => h) (Or.inl ⟨by rfl, ?_⟩) (by assumption) ?_
        rotate_left 1
        · intro w hSw; (obtain ⟨z0, z1⟩ := hSw); go_simp; (try with_reducible rfl)
        (try simp only [Act.put, List.setIfInBounds_toArray, List.set_cons_zero, List.set_cons_succ])
        refine wpAnyH_take (i := 3) (v := ?_) (by simp only [List.getElem?_toArray, List.getElem?_cons_succ, List.getElem?_cons_zero]; rfl) (by kernel_rfl) (by kernel_rfl) (by kernel_rfl) (by exact fun _ _ _ h => h) (Or.inl ⟨by rfl, ?_⟩) (by assumption) ?_
        rotate_left 1
        · intro w hSw; (obtain ⟨z0, z1⟩ := hSw); go_simp; (try with_reducible rfl)
        (try simp only [Act.put, List.setIfInBounds_toArray, List.set_cons_zero, List.set_cons_succ])
        refine wpAnyH_take (i := 4) (v := ?_) (by simp only [List.getElem?_toArray, List.getElem?_cons_succ, List.getElem?_cons_zero]; rfl) (by kernel_rfl) (by kernel_rfl) (by kernel_rfl) (by exact fun _ _ _ h => h) (Or.inl ⟨by rfl, ?_⟩) (by assumption) ?_
        rotate_left 1
        · intro w hSw; (obtain ⟨z0, z1⟩ := hSw); go_simp; (try with_reducible rfl)
        (try simp only [Act.put, List.setIfInBounds_toArray, List.set_cons_zero, List.set_cons_succ])
        refine wpAnyH_take (i := 5) (v := ?_) (by simp only [List.getElem?_toArray, List.getElem?_cons_succ, List.getElem?_cons_zero]; rfl) (by kernel_rfl) (by kernel_rfl) (by kernel_rfl) (by exact fun _ _ _ h => h) (Or.inl ⟨by rfl, ?_⟩) (by assumption) ?_
        rotate_left 1
        · intro w hSw; (obtain ⟨z0, z1⟩ := hSw); go_simp; (try with_reducible rfl)
        (try simp only [Act.put, List.setIfInBounds_toArray, List.set_cons_zero, List.set_cons_succ])
        refine wpAnyH_take (i := 6) (v := ?_) (by simp only [List.getElem?_toArray, List.getElem?_cons_succ, List.getElem?_cons_zero]; rfl) (by kernel_rfl) (by kernel_rfl) (by kernel_rfl) (by exact fun _ _ _ h => h) (Or.inl ⟨by rfl, ?_⟩) (by assumption) ?_
        rotate_left 1
        · intro w hSw; (obtain ⟨z0, z1⟩ := hSw); go_simp; (try with_reducible rfl)
        (try simp only [Act.put, List.setIfInBounds_toArray, List.set_cons_zero, List.set_cons_succ])
        refine wpAnyH_ready (rs := [7]) (by kernel_rfl) (by simp) ?_
        refine AllReadyH.cons (by simp only [List.getElem?_toArray, List.getElem?_cons_succ, List.getElem?_cons_zero]; rfl) (fun Kq hKq => ?_) AllReadyH.nil
        go_simp
        refine (scnext_any Bs _ t y2 HS.out).mono ?_
        rintro e y3 ⟨rfl, hb⟩
        have hHeld0 := hHeld
        have hKn := (show (fun W : World => W.cell? ⟨b, off + k * 2, none⟩ = some (.int .i64 x1) ∧ W.cell? ⟨b, off + k * 2 + 1, none⟩ = some (.int .i64 x2)) y3 from ⟨cell_bel2 hHeld0.1 (block_lt_of_cell hHeld0.1) hb, cell_bel2 hHeld0.2 (block_lt_of_cell hHeld0.2) hb⟩)
        replace HS := Lib.hid (HS.out.below hb)
        replace HB := Lib.hid (HB.out.trans (hb.mono HB.out.size))
        clear hb hHeld0
        go_simp
        refine hKq.out _ _ (hKn) (fun hHeld2 => ?_)
        clear hKq Kq hHeld
        (try simp only [Act.put, List.setIfInBounds_toArray, List.set_cons_zero, List.set_cons_succ])
        have hHeld := hHeld2
        clear hHeld2
        refine wpAnyH_ready (rs := [8]) (by kernel_rfl) (by simp) ?_
        refine AllReadyH.cons (by simp only [List.getElem?_toArray, List.getElem?_cons_succ, List.getElem?_cons_zero]; rfl) (fun Kq hKq => ?_) AllReadyH.nil
        go_simp
        refine (span_any x1 x2 t.next y3 hI1 hI2 (by omega)).mono ?_
        rintro e y4 ⟨vl, rfl, hO, hb⟩
        have hHeld0 := hHeld
        have hKn := (show (fun W : World => W.cell? ⟨b, off + k * 2, none⟩ = some (.int .i64 x1) ∧ W.cell? ⟨b, off + k * 2 + 1, none⟩ = some (.int .i64 x2)) y4 from ⟨cell_bel2 hHeld0.1 (block_lt_of_cell hHeld0.1) hb, cell_bel2 hHeld0.2 (block_lt_of_cell hHeld0.2) hb⟩)
        obtain ⟨va, vc, rfl, hsp, -, hap⟩ := hO.at (Nat.le_trans (spanL_len (x1, x2) t.next) (by omega))
        have hil : InL Bs va (spanL (x1, x2) t.next) y4 := ⟨hsp, fun _ ad e => by have := (hap ad e).1; have := HS.out.lt; omega⟩
        have HL := Lib.hid hil
        replace HS := Lib.hid (HS.out.below hb)
        replace HB := Lib.hid (HB.out.trans (hb.mono HB.out.size))
        clear hb hHeld0 hO hsp hap hil
        go_simp
        refine hKq.out _ _ (hKn) (fun hHeld2 => ?_)
        clear hKq Kq hHeld
        (try simp only [Act.put, List.setIfInBounds_toArray, List.set_cons_zero, List.set_cons_succ])
        have hHeld := hHeld2
        clear hHeld2
        refine wpAnyH_ready (rs := [9]) (by kernel_rfl) (by simp) ?_
        refine AllReadyH.cons (by simp only [List.getElem?_toArray, List.getElem?_cons_succ, List.getElem?_cons_zero]; rfl) (fun Kq hKq => ?_) AllReadyH.nil
        go_simp
        refine (scacked_any Bs _ t s.una va vc (spanL (x1, x2) t.next) y4 HI.out.ok HS.out HL.out (by have := spanL_len (x1, x2) t.next; have h := canonF_len2 (n := t.next) HI.out.ok.csk (fun i hi => (HI.out.ok.msk i hi).2); rw [List.length_append]; omega)).mono ?_
        rintro e y5 ⟨rfl, hS, hc⟩
        have hHeld0 := hHeld
        have hKn := (show (fun W : World => W.cell? ⟨b, off + k * 2, none⟩ = some (.int .i64 x1) ∧ W.cell? ⟨b, off + k * 2 + 1, none⟩ = some (.int .i64 x2)) y5 from ⟨cell_chg hHeld0.1 hc (by omega), cell_chg hHeld0.2 hc (by omega)⟩)
        replace HB := Lib.hid (HB.out.trans (hc.below hNs HS.out.lt))
        replace HS := Lib.hid hS
        have HAK := Lib.hid (HI.out.ack (spanL_in (x1, x2) t.next))
        clear hc hS hHeld0
        go_simp
        refine hKq.out _ _ (hKn) (fun hHeld2 => ?_)
        clear hKq Kq hHeld
        (try simp only [Act.put, List.setIfInBounds_toArray, List.set_cons_zero, List.set_cons_succ])
        have hHeld := hHeld2
        clear hHeld2
        refine wpAnyH_take (i := 10) (v := ?_) (by simp only [List.getElem?_toArray, List.getElem?_cons_succ, List.getElem?_cons_zero]; rfl) (by kernel_rfl) (by kernel_rfl) (by kernel_rfl) (by exact fun _ _ _ h => h) (Or.inl ⟨by rfl, ?_⟩) (by assumption) ?_
        rotate_left 1
        · intro w hSw; (obtain ⟨z0, z1⟩ := hSw); go_simp; (try with_reducible rfl)
        (try simp only [Act.put, List.setIfInBounds_toArray, List.set_cons_zero, List.set_cons_succ])
        refine wpAnyH_take (i := 11) (v := ?_) (by simp only [List.getElem?_toArray, List.getElem?_cons_succ, List.getElem?_cons_zero]; rfl) (by kernel_rfl) (by kernel_rfl) (by kernel_rfl) (by exact fun _ _ _ h => h) (Or.inl ⟨by rfl, ?_⟩) (by assumption) ?_
        rotate_left 1
        · intro w hSw; (obtain ⟨z0, z1⟩ := hSw); go_simp; (try with_reducible rfl)
        (try simp only [Act.put, List.setIfInBounds_toArray, List.set_cons_zero, List.set_cons_succ])
        refine wpAnyH_take (i := 12) (v := ?_) (by simp only [List.getElem?_toArray, List.getElem?_cons_succ, List.getElem?_cons_zero]; rfl) (by kernel_rfl) (by kernel_rfl) (by kernel_rfl) (by exact fun _ _ _ h => h) (Or.inl ⟨by rfl, ?_⟩) (by assumption) ?_
        rotate_left 1
        · intro w hSw; (obtain ⟨z0, z1⟩ := hSw); go_simp; (try with_reducible rfl)
        (try simp only [Act.put, List.setIfInBounds_toArray, List.set_cons_zero, List.set_cons_succ])
        refine wpAnyH_take (i := 13) (v := ?_) (by simp only [List.getElem?_toArray, List.getElem?_cons_succ, List.getElem?_cons_zero]; rfl) (by kernel_rfl) (by kernel_rfl) (by kernel_rfl) (by exact fun _ _ _ h => h) (Or.inl ⟨by rfl, ?_⟩) (by assumption) ?_
        rotate_left 1
        · intro w hSw; (obtain ⟨z0, z1⟩ := hSw); go_simp; (try with_reducible rfl)
        (try simp only [Act.put, List.setIfInBounds_toArray, List.set_cons_zero, List.set_cons_succ])
        refine wpAnyH_take (i := 14) (v := ?_) (by simp only [List.getElem?_toArray, List.getElem?_cons_succ, List.getElem?_cons_zero]; rfl) (by kernel_rfl) (by kernel_rfl) (by kernel_rfl) (by exact fun _ _ _ h => h) (Or.inl ⟨by rfl, ?_⟩) (by assumption) ?_
        rotate_left 1
        · intro w hSw; (obtain ⟨z0, z1⟩ := hSw); go_simp; (try with_reducible rfl)
        (try simp only [Act.put, List.setIfInBounds_toArray, List.set_cons_zero, List.set_cons_succ])
        refine wpAnyH_done (by kernel_rfl) ?_ _
        clear hHeld
        rw [HAK.out.2.1]
        obtain ⟨na, hna⟩ : ∃ na, na = t.ackN s.una (spanL (x1, x2) t.next) := ⟨_, rfl⟩
        have hn0 : 0 ≤ na := by rw [hna]; exact HAK.out.2.2
        rw [← hna]
        have hna1 : na ≤ 1200 := by have h := HAK.out.1.bd; rw [← hna] at h; omega
        have HNA := Lib.hid hna
        clear hna HL
        go_wp2_with fail
        go_roundg (gk - 1)
        case measure => omega
        case rel => exact ⟨k + 1, t.acked s.una (spanL (x1, x2) t.next), all + na, by go_num, by go_num, by omega, by omega, by rw [HNA.out]; exact HAK.out.1, HS.out, HB.out⟩
      · obtain rfl : k = 12 := by omega
        have f1 : (12 : Int) < (len2 : Int) := by omega
        have HOK := Lib.hid HI.out.ok
        have HU := Lib.hid HI.out.una
        have HN := Lib.hid HI.out.next
        have HCT := Lib.hid HI.out.cnt
        have hsk0 := (countF_nonneg HI.out.ok.csk).1
        have htu := HI.out.ok.un
        have htn := HI.out.nx
        have ht0 := HI.out.ok.u0
        go_wp2_with fail
        refine (scnext_any Bs _ t _ HS.out).mono ?_
        rintro e v41 ⟨rfl, hb⟩
        replace HS := Lib.hid (HS.out.below hb)
        replace HB := Lib.hid (HB.out.trans (hb.mono HB.out.size))
        clear hb
        go_wp2_with fail
        have HLN := Lib.hid (show (t.sk ++ ([] : List Sp)).length ≤ 1099511627776 by rw [List.append_nil]; exact canonF_len HOK.out.csk)
        have HAA := Lib.hid (ackedAll2 HOK.out)
        have HDE := Lib.hid (drEnd HOK.out)
        refine (scacked_any Bs _ t t.next none 0 [] _ HOK.out HS.out ⟨⟨by simp, fun h => absurd h (by simp)⟩, fun h => absurd h (by simp)⟩ HLN.out).mono ?_
        rintro e v42 ⟨rfl, hS, hc⟩
        replace HB := Lib.hid (HB.out.trans (hc.below hNs HS.out.lt))
        rw [HAA.out.1] at hS
        replace HS := Lib.hid hS
        clear hS hc
        rw [HAA.out.2.1, HAA.out.2.2]
        obtain ⟨n1, hn1⟩ : ∃ n1, n1 = t.next - t.una - countF t.sk := ⟨_, rfl⟩
        rw [← hn1]
        have hcmp : all + n1 = t.next - s.una := by have h1 := HCT.out; have h2 := HU.out; omega
        have hn1b : 0 ≤ n1 ∧ n1 ≤ 1200 := by have := sk_bd HOK.out; omega
        clear hn1
        have HUU := Lib.hid (show s.una = t.una from HU.out.symm)
        have HEE := Lib.hid (drEnd2 HOK.out (show 0 ≤ s.una by omega) (show s.una ≤ t.next by rw [HUU.out]; exact htu))
        go_wp2_with fail
        refine (scacked_any Bs _ (endS t) s.una none 0 [] _ HDE.out.1 HS.out ⟨⟨by simp, fun h => absurd h (by simp)⟩, fun h => absurd h (by simp)⟩ (by simp [endS])).mono ?_
        rintro e v43 ⟨rfl, hS, hc⟩
        replace HB := Lib.hid (HB.out.trans (hc.below hNs HS.out.lt))
        rw [HEE.out.1] at hS
        replace HS := Lib.hid hS
        clear hS hc
        rw [HEE.out.2.1, HEE.out.2.2]
        go_wp2_with fail
        refine (scnext_any Bs _ (endS t) _ HS.out).mono ?_
        rintro e v44 ⟨rfl, hb⟩
        replace HS := Lib.hid (HS.out.below hb)
        replace HB := Lib.hid (HB.out.trans (hb.mono HB.out.size))
        clear hb
        rw [show (endS t).next = t.next from rfl]
        have hcmp2 : (all + n1 == t.next - s.una) = true := by simp [hcmp]
        have HLO := Lib.hid (HDE.out.2 m hm1)
        go_wp2_with fail
        refine (sclost_any Bs _ (endS t) m _ HDE.out.1 HS.out).mono ?_
        rintro e v45 ⟨vl, rfl, hO, hb⟩
        rw [HLO.out.1] at hO
        obtain ⟨b2, c2, rfl, -⟩ := hO.val
        replace HS := Lib.hid (HS.out.below hb)
        replace HB := Lib.hid (HB.out.trans (hb.mono HB.out.size))
        clear hO hb
        go_wp2_with fail
        refine (scsacked_any Bs _ (endS t) _ HS.out).mono ?_
        rintro e v46 ⟨vl, rfl, hO, hb⟩
        rw [show (endS t).sk = [] from rfl] at hO
        obtain ⟨b3, c3, rfl, -⟩ := hO.val
        replace HS := Lib.hid (HS.out.below hb)
        replace HB := Lib.hid (HB.out.trans (hb.mono HB.out.size))
        clear hO hb
        go_wp2_with fail
        refine (scpipe_any Bs _ (endS t) m _ HDE.out.1 HS.out).mono ?_
        rintro e v47 ⟨rfl, hb⟩
        replace HS := Lib.hid (HS.out.below hb)
        replace HB := Lib.hid (HB.out.trans (hb.mono HB.out.size))
        clear hb
        rw [HLO.out.2]
        go_wp2_with fail
        refine (scuna_any Bs _ (endS t) _ HS.out).mono ?_
        rintro e v48 ⟨rfl, hb⟩
        replace HS := Lib.hid (HS.out.below hb)
        replace HB := Lib.hid (HB.out.trans (hb.mono HB.out.size))
        clear hb
        rw [show (endS t).una = t.next from rfl]
        go_wp2_with fail
        refine (scnext_any Bs _ (endS t) _ HS.out).mono ?_
        rintro e v49 ⟨rfl, hb⟩
        replace HS := Lib.hid (HS.out.below hb)
        replace HB := Lib.hid (HB.out.trans (hb.mono HB.out.size))
        clear hb
        rw [show (endS t).next = t.next from rfl]
        go_wp2_with fail
        go_ret
        exact ⟨by simp, HB.out⟩
    · obtain rfl : k = len2 := by omega
      have HOK := Lib.hid HI.out.ok
      have HU := Lib.hid HI.out.una
      have HN := Lib.hid HI.out.next
      have HCT := Lib.hid HI.out.cnt
      have hsk0 := (countF_nonneg HI.out.ok.csk).1
      have htu := HI.out.ok.un
      have htn := HI.out.nx
      have ht0 := HI.out.ok.u0
      go_wp2_with fail
      refine (scnext_any Bs _ t _ HS.out).mono ?_
      rintro e v41 ⟨rfl, hb⟩
      replace HS := Lib.hid (HS.out.below hb)
      replace HB := Lib.hid (HB.out.trans (hb.mono HB.out.size))
      clear hb
      go_wp2_with fail
      have HLN := Lib.hid (show (t.sk ++ ([] : List Sp)).length ≤ 1099511627776 by rw [List.append_nil]; exact canonF_len HOK.out.csk)
      have HAA := Lib.hid (ackedAll2 HOK.out)
      have HDE := Lib.hid (drEnd HOK.out)
      refine (scacked_any Bs _ t t.next none 0 [] _ HOK.out HS.out ⟨⟨by simp, fun h => absurd h (by simp)⟩, fun h => absurd h (by simp)⟩ HLN.out).mono ?_
      rintro e v42 ⟨rfl, hS, hc⟩
      replace HB := Lib.hid (HB.out.trans (hc.below hNs HS.out.lt))
      rw [HAA.out.1] at hS
      replace HS := Lib.hid hS
      clear hS hc
      rw [HAA.out.2.1, HAA.out.2.2]
      obtain ⟨n1, hn1⟩ : ∃ n1, n1 = t.next - t.una - countF t.sk := ⟨_, rfl⟩
      rw [← hn1]
      have hcmp : all + n1 = t.next - s.una := by have h1 := HCT.out; have h2 := HU.out; omega
      have hn1b : 0 ≤ n1 ∧ n1 ≤ 1200 := by have := sk_bd HOK.out; omega
      clear hn1
      have HUU := Lib.hid (show s.una = t.una from HU.out.symm)
      have HEE := Lib.hid (drEnd2 HOK.out (show 0 ≤ s.una by omega) (show s.una ≤ t.next by rw [HUU.out]; exact htu))
      go_wp2_with fail
      refine (scacked_any Bs _ (endS t) s.una none 0 [] _ HDE.out.1 HS.out ⟨⟨by simp, fun h => absurd h (by simp)⟩, fun h => absurd h (by simp)⟩ (by simp [endS])).mono ?_
      rintro e v43 ⟨rfl, hS, hc⟩
      replace HB := Lib.hid (HB.out.trans (hc.below hNs HS.out.lt))
      rw [HEE.out.1] at hS
      replace HS := Lib.hid hS
      clear hS hc
      rw [HEE.out.2.1, HEE.out.2.2]
      go_wp2_with fail
      refine (scnext_any Bs _ (endS t) _ HS.out).mono ?_
      rintro e v44 ⟨rfl, hb⟩
      replace HS := Lib.hid (HS.out.below hb)
      replace HB := Lib.hid (HB.out.trans (hb.mono HB.out.size))
      clear hb
      rw [show (endS t).next = t.next from rfl]
      have hcmp2 : (all + n1 == t.next - s.una) = true := by simp [hcmp]
      have HLO := Lib.hid (HDE.out.2 m hm1)
      go_wp2_with fail
      refine (sclost_any Bs _ (endS t) m _ HDE.out.1 HS.out).mono ?_
      rintro e v45 ⟨vl, rfl, hO, hb⟩
      rw [HLO.out.1] at hO
      obtain ⟨b2, c2, rfl, -⟩ := hO.val
      replace HS := Lib.hid (HS.out.below hb)
      replace HB := Lib.hid (HB.out.trans (hb.mono HB.out.size))
      clear hO hb
      go_wp2_with fail
      refine (scsacked_any Bs _ (endS t) _ HS.out).mono ?_
      rintro e v46 ⟨vl, rfl, hO, hb⟩
      rw [show (endS t).sk = [] from rfl] at hO
      obtain ⟨b3, c3, rfl, -⟩ := hO.val
      replace HS := Lib.hid (HS.out.below hb)
      replace HB := Lib.hid (HB.out.trans (hb.mono HB.out.size))
      clear hO hb
      go_wp2_with fail
      refine (scpipe_any Bs _ (endS t) m _ HDE.out.1 HS.out).mono ?_
      rintro e v47 ⟨rfl, hb⟩
      replace HS := Lib.hid (HS.out.below hb)
      replace HB := Lib.hid (HB.out.trans (hb.mono HB.out.size))
      clear hb
      rw [HLO.out.2]
      go_wp2_with fail
      refine (scuna_any Bs _ (endS t) _ HS.out).mono ?_
      rintro e v48 ⟨rfl, hb⟩
      replace HS := Lib.hid (HS.out.below hb)
      replace HB := Lib.hid (HB.out.trans (hb.mono HB.out.size))
      clear hb
      rw [show (endS t).una = t.next from rfl]
      go_wp2_with fail
      refine (scnext_any Bs _ (endS t) _ HS.out).mono ?_
      rintro e v49 ⟨rfl, hb⟩
      replace HS := Lib.hid (HS.out.below hb)
      replace HB := Lib.hid (HB.out.trans (hb.mono HB.out.size))
      clear hb
      rw [show (endS t).next = t.next from rfl]
      go_wp2_with fail
      go_ret
      exact ⟨by simp, HB.out⟩
end Go.Proofs.Ytncjeleabpodaaa
