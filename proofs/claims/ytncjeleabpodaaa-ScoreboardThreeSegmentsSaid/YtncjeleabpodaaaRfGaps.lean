/- The reference's Gaps. -/
import Derived.Test.YtncjeleabpodaaaRfRem
import Derived.Deep.LoopGhost
import Derived.Deep.CutBlock
import Derived.Deep.DeepCutAuto
namespace Go.Proofs.Ytncjeleabpodaaa
open Go.RowKit Go.Shelf
set_option maxRecDepth 100000 in
set_option maxHeartbeats 2000000 in
theorem rgaps_any (w : World) (n₀ : Nat) (a : Option Addr) (cap : Nat) (L : List Sp) (s : Sp) (hc : SpAt w n₀ a L) (hn : n₀ ≤ w.heap.size) :
    Calls Try.prog 112 #[.slice a L.length cap, .agg #[.int .i64 s.1, .int .i64 s.2]] w fun e w' => ∃ ga gc, e = .returned (.slice ga (gapsL L s).length gc) ∧ SpAt w' w'.heap.size ga (gapsL L s) ∧ Below w.heap.size w w' ∧ ∀ ad, ga = some ad → w.heap.size ≤ ad.block := by
  obtain ⟨s1, s2⟩ := s
  have hb0 := (Below.refl w.heap.size w).alloc (Nat.le_refl _) (.cells #[.int .i64 s1, .int .i64 s2] 51)
  have HS := Lib.hid hc
  clear hc
  have HN := Lib.hid hn
  clear hn
  have hn := HN.out
  go_enter Try.func112, Try.ntmps112
  go_wp2_with fail
  refine (rvalid_any _ n₀ a cap L (HS.out.below (hb0.mono HN.out)) (by simp; omega)).mono ?_
  rintro e w1 ⟨rfl, hb⟩
  obtain ⟨z0, y0⟩ := (At.new (W := w) (i := 0) (v := .int .i64 s1) (vs := #[.int .i64 s1, .int .i64 s2]) 51 rfl rfl).below hb (by simp)
  obtain ⟨z1, y1⟩ := (At.new (W := w) (i := 1) (v := .int .i64 s2) (vs := #[.int .i64 s1, .int .i64 s2]) 51 rfl rfl).below hb (by simp)
  have HB := Lib.hid (hb0.trans (hb.mono (by simp)))
  have hw1 : w.heap.size < w1.heap.size := by have := hb.size; simp at this; omega
  clear hb hb0
  cases hv : canonB L
  · have HTK := Lib.hid (show takesB L (s1, s2) = false by unfold takesB; rw [hv]; rfl)
    clear hv
    go_wp2_with fail
    go_ret
    refine ⟨none, 0, ?_, ?_, HB.out, fun ad e => by cases e⟩
    · unfold gapsL; rw [HTK.out]; rfl
    · unfold gapsL; rw [HTK.out]; exact ⟨by simp, fun h => absurd h (by simp)⟩
  · go_wp2_with fail
    refine (one_any s1 s2 w1).mono ?_
    rintro e w2 ⟨rfl, hb⟩
    replace z0 := cell_bel2 z0 hw1 hb
    replace z1 := cell_bel2 z1 hw1 hb
    replace y0 := (show w2.frozen? ⟨w.heap.size, 0, none⟩ = false from (hb.frozen (p := ⟨w.heap.size, 0, none⟩) hw1).trans y0)
    replace y1 := (show w2.frozen? ⟨w.heap.size, 1, none⟩ = false from (hb.frozen (p := ⟨w.heap.size, 1, none⟩) hw1).trans y1)
    replace HB := Lib.hid (HB.out.trans (hb.mono HB.out.size))
    have hw2 := Nat.lt_of_lt_of_le hw1 hb.size
    clear hb hw1
    cases ho : okB (s1, s2)
    · have HTK := Lib.hid (show takesB L (s1, s2) = false by rw [takesB_one, hv, ho]; rfl)
      clear hv ho
      go_wp2_with fail
      go_ret
      refine ⟨none, 0, ?_, ?_, HB.out, fun ad e => by cases e⟩
      · unfold gapsL; rw [HTK.out]; rfl
      · unfold gapsL; rw [HTK.out]; exact ⟨by simp, fun h => absurd h (by simp)⟩
    · have HTK := Lib.hid (show takesB L (s1, s2) = true by rw [takesB_one, hv, ho]; rfl)
      have HO := Lib.hid (okB_iff.1 ho)
      have HV := Lib.hid hv
      clear ho hv
      go_wp2_with fail
      have hs0 : SpAt (w2.alloc (.cells #[.int .i64 s1, .int .i64 s2] 51)) (w2.alloc (.cells #[.int .i64 s1, .int .i64 s2] 51)).heap.size (some ⟨w2.heap.size, 0, none⟩) [(s1, s2)] := ⟨by simp, fun _ => ⟨w2.heap.size, 0, rfl, by simp, fun i hi => by obtain rfl : i = 0 := (by simpa using hi); exact ⟨(At.new (W := w2) (i := 0) (v := .int .i64 s1) (vs := #[.int .i64 s1, .int .i64 s2]) 51 rfl rfl).1, (At.new (W := w2) (i := 1) (v := .int .i64 s2) (vs := #[.int .i64 s1, .int .i64 s2]) 51 rfl rfl).1⟩⟩⟩
      have HS0 := Lib.hid hs0
      replace HB := Lib.hid (HB.out.alloc (by omega) (.cells #[.int .i64 s1, .int .i64 s2] 51))
      clear hs0 z0 z1 y0 y1
      go_loopg [5, 6] L.length (fun g ov kv wr => ∃ (k : Nat) (oa : Option Addr) (oc : Nat), kv = .int .i64 (k : Int) ∧ g + k = L.length ∧ ov = .slice oa ((L.take k).foldl remL [(s1, s2)]).length oc ∧ SpAt wr wr.heap.size oa ((L.take k).foldl remL [(s1, s2)]) ∧ Below w.heap.size w wr ∧ ∀ ad, oa = some ad → w.heap.size ≤ ad.block)
      case atStart => exact ⟨0, _, _, rfl, rfl, rfl, HS0.out, HB.out, fun ad e => by cases e; dsimp only; omega⟩
      case round =>
        clear HS0 HB hw2
        obtain ⟨k, oa, oc, rfl, hg, rfl, hso, hbl, hnew⟩ := hrel
        have HNW := Lib.hid hnew
        clear hnew
        have HO := Lib.hid hso
        have HB := Lib.hid hbl
        have hsz := hbl.size
        clear hso hbl
        by_cases hk : k < L.length
        · obtain ⟨b, off, rfl, hbk, hcs⟩ := HS.out.cells (by omega)
          obtain ⟨d0, d1⟩ := hcs k hk
          clear hcs
          have hkr : (k : Int) < (L.length : Int) := by omega
          replace d0 := cell_bel2 d0 (by omega) HB.out
          replace d1 := cell_bel2 d1 (by omega) HB.out
          have HT := Lib.hid (show (L.take (k + 1)).foldl remL [(s1, s2)] = remL ((L.take k).foldl remL [(s1, s2)]) L[k] by rw [List.take_succ_eq_append_getElem hk, List.foldl_append]; rfl)
          have HLN := Lib.hid (show (remL ((L.take k).foldl remL [(s1, s2)]) L[k]).length ≤ 1099511627776 from canonF_len (remL_canon _ _))
          generalize L[k] = x at d0 d1 HT HLN
          obtain ⟨x1, x2⟩ := x
          dsimp only at d0 d1
          rw [← HT.out] at HLN
          generalize (L.take k).foldl remL [(s1, s2)] = O at HO HT
          have HRM := Lib.hid (rremove_any wr wr.heap.size oa oc O (x1, x2) HO.out (Nat.le_refl _))
          go_wp2_with fail
          refine HRM.out.mono ?_
          rintro e w3 ⟨v, rfl, hO, hb⟩
          clear d0 d1
          rw [← HT.out] at hO
          obtain ⟨va, vc, rfl, hsp, -, hap⟩ := hO.at HLN.out
          have HSP := Lib.hid hsp
          have HAP := Lib.hid (show ∀ ad, va = some ad → w.heap.size ≤ ad.block from fun ad e => Nat.le_trans hsz (hap ad e).1)
          clear hap
          have HB3 := Lib.hid (HB.out.trans (hb.mono HB.out.size))
          clear hO hb hsp HRM
          go_wp2_with fail
          go_roundg (gk - 1)
          case measure => omega
          case rel => exact ⟨k + 1, _, _, by first | go_num | (have hsm := HS.out.small; have e : wrap64 ((k : Int) + 1) = ((k + 1 : Nat) : Int) := (by unfold wrap64; omega); rw [e]), by omega, rfl, HSP.out, HB3.out, HAP.out⟩
        · go_wp2_with fail
          go_ret
          obtain rfl : k = L.length := by omega
          have h := HO.out
          rw [List.take_length, gaps_rem HTK.out] at h
          refine ⟨oa, oc, ?_, h, HB.out, HNW.out⟩
          rw [List.take_length, gaps_rem HTK.out]
          rfl
end Go.Proofs.Ytncjeleabpodaaa
