/- The reference's Remove. -/
import Derived.Test.YtncjeleabpodaaaRfPl
import Derived.Deep.LoopGhost
import Derived.Deep.CutBlock
import Derived.Deep.DeepCutAuto
namespace Go.Proofs.Ytncjeleabpodaaa
open Go.RowKit Go.Shelf
set_option maxRecDepth 100000 in
set_option maxHeartbeats 2000000 in
theorem rremove_any (w : World) (n₀ : Nat) (a : Option Addr) (cap : Nat) (L : List Sp) (s : Sp) (hc : SpAt w n₀ a L) (hn : n₀ ≤ w.heap.size) :
    Calls Try.prog 38 #[.slice a L.length cap, .agg #[.int .i64 s.1, .int .i64 s.2]] w fun e w' => ∃ v, e = .returned v ∧ OwnSp w' w.heap.size v (remL L s) ∧ Below w.heap.size w w' := by
  obtain ⟨s1, s2⟩ := s
  have hb0 := (Below.refl w.heap.size w).alloc (Nat.le_refl _) (.cells #[.int .i64 s1, .int .i64 s2] 51)
  have HS := Lib.hid hc
  clear hc
  have HN := Lib.hid hn
  clear hn
  have hn := HN.out
  go_enter Try.func38, Try.ntmps38
  go_wp2_with fail
  refine (rvalid_any _ n₀ a cap L (HS.out.below (hb0.mono HN.out)) (by simp; omega)).mono ?_
  rintro e w1 ⟨rfl, hb⟩
  obtain ⟨z0, y0⟩ := (At.new (W := w) (i := 0) (v := .int .i64 s1) (vs := #[.int .i64 s1, .int .i64 s2]) 51 rfl rfl).below hb (by simp)
  obtain ⟨z1, y1⟩ := (At.new (W := w) (i := 1) (v := .int .i64 s2) (vs := #[.int .i64 s1, .int .i64 s2]) 51 rfl rfl).below hb (by simp)
  have HB := Lib.hid (hb0.trans (hb.mono (by simp)))
  have hw1 : w.heap.size < w1.heap.size := by have := hb.size; simp at this; omega
  clear hb hb0
  cases hv : canonB L
  · have HTK := Lib.hid (show takesB L (s1, s2) = false by unfold takesB; rw [hv]; rfl)
    clear hv
    go_wp2_with fail
    go_ret
    refine ⟨_, rfl, ?_, HB.out⟩
    unfold remL
    rw [HTK.out]
    exact OwnSp.nil _ _
  · go_wp2_with fail
    refine (one_any s1 s2 w1).mono ?_
    rintro e w2 ⟨rfl, hb⟩
    replace z0 := cell_bel2 z0 hw1 hb
    replace z1 := cell_bel2 z1 hw1 hb
    replace y0 := (show w2.frozen? ⟨w.heap.size, 0, none⟩ = false from (hb.frozen (p := ⟨w.heap.size, 0, none⟩) hw1).trans y0)
    replace y1 := (show w2.frozen? ⟨w.heap.size, 1, none⟩ = false from (hb.frozen (p := ⟨w.heap.size, 1, none⟩) hw1).trans y1)
    replace HB := Lib.hid (HB.out.trans (hb.mono HB.out.size))
    have hw2 := Nat.lt_of_lt_of_le hw1 hb.size
    clear hb hw1
    cases ho : okB (s1, s2)
    · have HTK := Lib.hid (show takesB L (s1, s2) = false by rw [takesB_one, hv, ho]; rfl)
      clear hv ho
      go_wp2_with fail
      go_ret
      refine ⟨_, rfl, ?_, HB.out⟩
      unfold remL
      rw [HTK.out]
      exact OwnSp.nil _ _
    · have HTK := Lib.hid (show takesB L (s1, s2) = true by rw [takesB_one, hv, ho]; rfl)
      have HO := Lib.hid (okB_iff.1 ho)
      have HV := Lib.hid hv
      clear ho hv
      go_wp2_with fail
      have hz0 : WI w.heap.size w.heap.size s1 s2 w (.slice none 0 0) [] w2 := ⟨OwnSp.nil _ _, ⟨z0, y0⟩, ⟨z1, y1⟩, by simp [Value.ownBlock], HB.out⟩
      have HW0 := Lib.hid hz0
      clear hz0 z0 z1 y0 y1 HB
      go_loopg [5, 6] L.length (fun g ov kv wr => ∃ (k : Nat), kv = .int .i64 (k : Int) ∧ g + k = L.length ∧ WI w.heap.size w.heap.size s1 s2 w ov (remF (s1, s2) (L.take k)) wr)
      case atStart => exact ⟨0, rfl, rfl, HW0.out⟩
      case round =>
        clear HW0 hw2
        obtain ⟨k, rfl, hg, hwi⟩ := hrel
        have hws := hwi.below.size
        have HW := Lib.hid hwi
        obtain ⟨z0, z1⟩ := hwi.cells
        clear hwi
        by_cases hk : k < L.length
        · obtain ⟨b, off, rfl, hbk, hcs⟩ := HS.out.cells (by omega)
          obtain ⟨d0, d1⟩ := hcs k hk
          clear hcs
          have hkr : (k : Int) < (L.length : Int) := by omega
          replace d0 := cell_bel2 d0 (by omega) HW.out.below
          replace d1 := cell_bel2 d1 (by omega) HW.out.below
          have hxw := HW.out.x0.lt
          have hlen := remF_len (s1, s2) (L.take k)
          have hsmL := HS.out.small
          rw [List.length_take] at hlen
          have HT := Lib.hid (show remF (s1, s2) (L.take (k + 1)) = remF (s1, s2) (L.take k) ++ (one L[k].1 (min L[k].2 s1) ++ one (max L[k].1 s2) L[k].2) by rw [List.take_succ_eq_append_getElem hk, remF_snoc])
          generalize L[k] = x at d0 d1 HT
          obtain ⟨x1, x2⟩ := x
          dsimp only at d0 d1 HT
          go_upto_if 33 with fail
          have HRX := Lib.hid (show RX w.heap.size w.heap.size wr.heap.size s1 s2 x1 x2 w u5 (remF (s1, s2) (L.take k)) (wr.alloc (.cells #[.int .i64 x1, .int .i64 x2] 51)) from ⟨HW.out.alloc hws _, At.new _ rfl rfl, At.new _ rfl rfl, fun e => by have := (HW.out.own.lt _ e).2; omega⟩)
          obtain ⟨Y, hY⟩ : ∃ Y, Y = wr.heap.size := ⟨_, rfl⟩
          rw [← hY] at HRX ⊢
          generalize wr.alloc (.cells #[.int .i64 x1, .int .i64 x2] 51) = wa at HRX ⊢
          clear d0 d1 z0 z1 HW hws hxw hY wr
          generalize remF (s1, s2) (L.take k) = O at HRX HT hlen
          go_cut [5] (fun ov wx => RX w.heap.size w.heap.size Y s1 s2 x1 x2 w ov (O ++ one x1 (min x2 s1)) wx)
          case first =>
            obtain ⟨z0, z1, e0, e1⟩ := HRX.out.cells
            have hwz := HRX.out.wi.below.size
            have HOL := Lib.hid (show O.length ≤ 4398046511104 by omega)
            by_cases hmn : s1 < x2
            · have hmn1 := hmn
              by_cases hA : x1 < s1
              · go_wp2_with (first | (at_builtin; refine wpList_append_span _ rfl _ _ rfl w.heap.size _ _ rfl (HRX.out.wi.own.alloc _) HOL.out _ (x1, s1) rfl (by simp) (by simp) (by simp; omega) ?_))
                intro v' w' ho hgr hbl
                have hrx := (HRX.out.alloc (by omega) (.cells #[.int .i64 x1, .int .i64 s1] 51)).app (Nat.le_refl _) ho hgr (by rcases hbl with h | ⟨kk, h, hk⟩; exact .inl h; exact .inr ⟨kk, h, by rw [World.size_alloc]; exact hk⟩)
                have HR2 := Lib.hid hrx
                clear ho hgr hbl hrx z0 z1 e0 e1
                go_wp2_with fail
                go_meet
                case rel => rw [show min x2 s1 = s1 by omega, one_yes hA]; exact HR2.out
              · have hA2 : s1 ≤ x1 := by omega
                go_wp2_with fail
                go_meet
                case rel => rw [show min x2 s1 = s1 by omega, show one x1 s1 = [] from one_no (by omega), List.append_nil]; exact HRX.out
            · have hmn2 : x2 ≤ s1 := by omega
              by_cases hA : x1 < x2
              · go_wp2_with (first | (at_builtin; refine wpList_append_span _ rfl _ _ rfl w.heap.size _ _ rfl (HRX.out.wi.own.alloc _) HOL.out _ (x1, x2) rfl (by simp) (by simp) (by simp; omega) ?_))
                intro v' w' ho hgr hbl
                have hrx := (HRX.out.alloc (by omega) (.cells #[.int .i64 x1, .int .i64 x2] 51)).app (Nat.le_refl _) ho hgr (by rcases hbl with h | ⟨kk, h, hk⟩; exact .inl h; exact .inr ⟨kk, h, by rw [World.size_alloc]; exact hk⟩)
                have HR2 := Lib.hid hrx
                clear ho hgr hbl hrx z0 z1 e0 e1
                go_wp2_with fail
                go_meet
                case rel => rw [show min x2 s1 = x2 by omega, one_yes hA]; exact HR2.out
              · have hA2 : x2 ≤ x1 := by omega
                go_wp2_with fail
                go_meet
                case rel => rw [show min x2 s1 = x2 by omega, show one x1 x2 = [] from one_no (by omega), List.append_nil]; exact HRX.out
          case rest =>
            clear HRX
            have HRX := Lib.hid hcut
            clear hcut
            obtain ⟨z0, z1, e0, e1⟩ := HRX.out.cells
            have hwz := HRX.out.wi.below.size
            have HOL := Lib.hid (show (O ++ one x1 (min x2 s1)).length ≤ 4398046511104 by have := one_le2 x1 (min x2 s1); rw [List.length_append]; omega)
            by_cases hmx : x1 < s2
            · have hmx1 := hmx
              by_cases hB : s2 < x2
              · go_wp2_with (first | (at_builtin; refine wpList_append_span _ rfl _ _ rfl w.heap.size _ _ rfl (HRX.out.wi.own.alloc _) HOL.out _ (s2, x2) rfl (by simp) (by simp) (by simp; omega) ?_))
                intro v' w' ho hgr hbl
                have hrx := (HRX.out.alloc (by omega) (.cells #[.int .i64 s2, .int .i64 x2] 51)).app (Nat.le_refl _) ho hgr (by rcases hbl with h | ⟨kk, h, hk⟩; exact .inl h; exact .inr ⟨kk, h, by rw [World.size_alloc]; exact hk⟩)
                have HR2 := Lib.hid hrx
                clear ho hgr hbl hrx z0 z1 e0 e1
                go_wp2_with fail
                go_roundg (gk - 1)
                case measure => omega
                case rel => exact ⟨k + 1, by first | go_num | (have hsm := HS.out.small; have e : wrap64 ((k : Int) + 1) = ((k + 1 : Nat) : Int) := (by unfold wrap64; omega); rw [e]), by omega, by rw [HT.out, show max x1 s2 = s2 by omega, one_yes hB]; exact HR2.out.wi⟩
              · have hB2 : x2 ≤ s2 := by omega
                go_wp2_with fail
                go_roundg (gk - 1)
                case measure => omega
                case rel => exact ⟨k + 1, by first | go_num | (have hsm := HS.out.small; have e : wrap64 ((k : Int) + 1) = ((k + 1 : Nat) : Int) := (by unfold wrap64; omega); rw [e]), by omega, by rw [HT.out, show max x1 s2 = s2 by omega, show one s2 x2 = [] from one_no (by omega), List.append_nil]; exact HRX.out.wi⟩
            · have hmx2 : s2 ≤ x1 := by omega
              by_cases hB : x1 < x2
              · go_wp2_with (first | (at_builtin; refine wpList_append_span _ rfl _ _ rfl w.heap.size _ _ rfl (HRX.out.wi.own.alloc _) HOL.out _ (x1, x2) rfl (by simp) (by simp) (by simp; omega) ?_))
                intro v' w' ho hgr hbl
                have hrx := (HRX.out.alloc (by omega) (.cells #[.int .i64 x1, .int .i64 x2] 51)).app (Nat.le_refl _) ho hgr (by rcases hbl with h | ⟨kk, h, hk⟩; exact .inl h; exact .inr ⟨kk, h, by rw [World.size_alloc]; exact hk⟩)
                have HR2 := Lib.hid hrx
                clear ho hgr hbl hrx z0 z1 e0 e1
                go_wp2_with fail
                go_roundg (gk - 1)
                case measure => omega
                case rel => exact ⟨k + 1, by first | go_num | (have hsm := HS.out.small; have e : wrap64 ((k : Int) + 1) = ((k + 1 : Nat) : Int) := (by unfold wrap64; omega); rw [e]), by omega, by rw [HT.out, show max x1 s2 = x1 by omega, one_yes hB]; exact HR2.out.wi⟩
              · have hB2 : x2 ≤ x1 := by omega
                go_wp2_with fail
                go_roundg (gk - 1)
                case measure => omega
                case rel => exact ⟨k + 1, by first | go_num | (have hsm := HS.out.small; have e : wrap64 ((k : Int) + 1) = ((k + 1 : Nat) : Int) := (by unfold wrap64; omega); rw [e]), by omega, by rw [HT.out, show max x1 s2 = x1 by omega, show one x1 x2 = [] from one_no (by omega), List.append_nil]; exact HRX.out.wi⟩
        · go_wp2_with fail
          go_ret
          refine ⟨_, rfl, ?_, HW.out.below⟩
          obtain rfl : k = L.length := by omega
          unfold remL
          rw [if_pos HTK.out]
          have h := HW.out.own
          rw [List.take_length] at h
          exact h
end Go.Proofs.Ytncjeleabpodaaa
