/- RTOScoreboard: its walk. -/
import Derived.Test.YtncjeleabpodaaaRoP
import Derived.Test.YtncjeleabpodaaaScLs
import Derived.Test.YtncjeleabpodaaaScAckO
import Derived.Test.YtncjeleabpodaaaRtoEx
import Derived.Test.YtncjeleabpodaaaPairs
namespace Go.Proofs.Ytncjeleabpodaaa
open Go.RowKit
set_option maxHeartbeats 6400000 in
set_option maxRecDepth 100000 in
theorem walk_RTOScoreboard (w : World) (a : Option Addr) (len cap : Nat) (zs : Nat → Int × Int) (hrow : IsPairs w a len zs) :
    Calls Try.prog 9 #[.slice a len cap] w fun r w' => r = .returned (.bool true) ∧ Below w.heap.size w w' := by
  have hml := hrow.1
  unfold maxLen at hml
  have HROW := Lib.hid hrow
  clear hrow
  go_enter Try.func9, Try.ntmps9
  go_wp2_with fail
  refine (examples_any _).mono ?_
  rintro e w1 ⟨rfl, hB⟩
  go_wp2_with fail
  refine (scnew_any _).mono ?_
  rintro e w2 ⟨rfl, hw⟩
  have hNs : w.heap.size ≤ w1.heap.size := hB.size
  have hsn := (ScAt.new (lb := 0) hw).1
  have HSN := Lib.hid (fun lb W (hb : Below w2.heap.size w2 W) (h1 : w1.heap.size < lb) (h2 : lb ≤ W.heap.size) => (ScAt.new (lb := lb) hw).2 W hb h1 h2)
  replace hB := below_alloc_eq hB hNs hw
  clear hw
  have hBs : w1.heap.size < w2.heap.size := hsn
  generalize w1.heap.size = Bs at HSN hNs hBs ⊢
  clear hsn
  go_wp2_with fail
  refine (new_any _).mono ?_
  rintro e w3 ⟨rfl, hw⟩
  have ht := Tim.new_eq hw
  have hNt : w.heap.size ≤ w2.heap.size := hB.size
  have hb23 : Below w2.heap.size w2 w3 := below_alloc_eq (Below.refl _ _) (Nat.le_refl _) hw
  replace hB := below_alloc_eq hB hNt hw
  clear hw
  obtain ⟨Bt, hBt⟩ : ∃ Bt, Bt = w2.heap.size := ⟨_, rfl⟩
  have hst : Bs < Bt := by omega
  rw [← hBt] at ht ⊢
  have hNt2 : w.heap.size ≤ Bt := by omega
  have HBT := Lib.hid hBt
  clear hNt hBt
  go_wp2_with fail
  refine (new_any _).mono ?_
  rintro e w4 ⟨rfl, hw⟩
  have hu := Tim.new_eq hw
  have hNu : w.heap.size ≤ w3.heap.size := hB.size
  have hb34 : Below w3.heap.size w3 w4 := below_alloc_eq (Below.refl _ _) (Nat.le_refl _) hw
  have htl := ht.lt
  have hBt := HBT.out
  replace hB := below_alloc_eq hB hNu hw
  replace ht := ht.alloc_eq hw
  clear hw
  obtain ⟨Bu, hBu⟩ : ∃ Bu, Bu = w3.heap.size := ⟨_, rfl⟩
  have htu : Bt < Bu := by omega
  rw [← hBu] at hu ⊢
  have hNu2 : w.heap.size ≤ Bu := by omega
  clear hNu
  have hul := hu.lt
  obtain ⟨lb, hlb⟩ : ∃ lb, lb = w4.heap.size := ⟨_, rfl⟩
  have hlu : Bu < lb := by omega
  have hs := HSN.out lb w4 (hb23.trans (hb34.mono (by omega))) (by omega) (by omega)
  clear HSN hb23 hb34 hBt hBu hBs htl hul hlb HBT
  have HS := Lib.hid (show ScAt Bs lb (scR 0) w4 from hs)
  have HT := Lib.hid ht
  have HU := Lib.hid hu
  have HB := Lib.hid hB
  clear hs ht hu hB
  go_wp2_with fail
  go_loopw [7, 8, 9] (fun v o i wr => ∃ (k : Nat) (n : Int) (t u : Tm), k ≤ min len 30 ∧ i = .int .i64 k ∧ v = .int .i64 n ∧ o = .int .i64 (400 * (k : Int)) ∧ (0 ≤ n ∧ n ≤ 255 * (k : Int)) ∧ TmEq t u ∧ ScAt Bs lb (scR (400 * (k : Int))) wr ∧ Tim Bt t wr ∧ Tim Bu u wr ∧ Below w.heap.size w wr) (fun _ _ i _ => 30 - (intOf i).toNat)
  case atStart => exact ⟨0, 0, tm0, tm0, Nat.zero_le _, rfl, rfl, rfl, ⟨Int.le_refl _, Int.le_refl _⟩, tmEq0, HS.out, HT.out, HU.out, HB.out⟩
  case round =>
    clear HS HT HU HB
    obtain ⟨k, n, t, u, hk, rfl, rfl, rfl, ⟨hn0, hn1⟩, heq, hs, ht, hu, hb⟩ := hrel
    have HS := Lib.hid hs
    have HT := Lib.hid ht
    have HU := Lib.hid hu
    have HB := Lib.hid hb
    have HE := Lib.hid heq
    clear hs ht hu hb heq
    by_cases hlt : k < len
    · by_cases hl3 : k < 30
      · obtain ⟨b, off, rfl, hbs, hcs⟩ := HROW.out.2 (by omega)
        obtain ⟨c0, c1, ⟨z1, z2⟩, z3, z4⟩ := hcs k hlt
        clear hcs
        generalize (zs k).1 = z at *
        generalize (zs k).2 = y at *
        have f1 : (k : Int) < (len : Int) := by omega
        have f2 : (k : Int) < 30 := by omega
        have HK := Lib.hid (show 400 * ((k + 1 : Nat) : Int) = 400 * (k : Int) + 400 by omega)
        have HK2 := Lib.hid (show 255 * ((k + 1 : Nat) : Int) = 255 * (k : Int) + 255 by omega)
        obtain ⟨o, ho⟩ : ∃ o, o = 400 * (k : Int) := ⟨_, rfl⟩
        have ho0 : 0 ≤ o := by omega
        have ho1 : o ≤ 12000 := by omega
        rw [← ho] at HS HK ⊢
        clear ho
        have h64 : In64 n := by unfold In64; omega
        have HI := Lib.hid h64
        clear h64
        have HR1 := Lib.hid (scR_sent ho0 (by omega))
        have HR2 := Lib.hid (scE_ack ho0 (by omega))
        have HR3 := Lib.hid (scA_lost ho0 (by omega)).1
        have HR4 := Lib.hid (scA_ret ho0 (by omega))
        have HR5 := Lib.hid (scB_lost ho0 (by omega))
        have HR6 := Lib.hid (scE_all ho0 (by omega))
        have HR7 := Lib.hid (scB_all ho0 (by omega))
        have HR8 := Lib.hid (scR_pipe (o := o + 400) (by omega) (by omega))
        have HK0 := Lib.hid (scE_ok ho0 (by omega))
        have HK3 := Lib.hid (scA_ok ho0 (by omega))
        have HK4 := Lib.hid (scB_ok ho0 (by omega))
        have HK5 := Lib.hid (scR_ok (o := o + 400) (by omega) (by omega))
        go_wp2_with fail
        refine (scsent_any Bs lb (scR o) (o + 400) _ HS.out).mono ?_
        rintro e v1 ⟨rfl, hS, hc⟩
        replace HB := Lib.hid (below_chg HB.out hNs HS.out.lt hc)
        replace HT := Lib.hid (HT.out.other hc (by omega))
        replace HU := Lib.hid (HU.out.other hc (by omega))
        rw [HR1.out.1] at hS
        replace HS := Lib.hid hS
        clear hS hc
        rw [HR1.out.2]
        go_wp2_with fail
        refine (sent_any Bt t n (o + 100) _ HT.out).mono ?_
        rintro e v2 ⟨rfl, hT, hc⟩
        replace HB := Lib.hid (below_chg HB.out hNt2 HT.out.lt hc)
        replace HS := Lib.hid (HS.out.other hc (by omega) (by omega))
        replace HU := Lib.hid (HU.out.other hc (by omega))
        replace HT := Lib.hid hT
        clear hT hc
        have d0 := (HB.out.cell (p := ⟨b, off + k * 2, none⟩) hbs).trans c0
        have d1 := (HB.out.cell (p := ⟨b, off + k * 2 + 1, none⟩) hbs).trans c1
        go_wp2_with fail
        clear d0 d1
        · have hb := sgBel v2 (.cells #[.int .i64 (o + 100), .int .i64 (o + 400)] 51)
          have hin : InL Bs (some ⟨v2.heap.size, 0, none⟩) [(o + 100, o + 400)] (v2.alloc (.cells #[.int .i64 (o + 100), .int .i64 (o + 400)] 51)) := ⟨⟨by simp, fun _ => ⟨v2.heap.size, 0, rfl, by simp, fun i hi => by obtain rfl : i = 0 := (by simpa using hi); exact ⟨(At.new (W := v2) (i := 0) (v := .int .i64 (o + 100)) (vs := #[.int .i64 (o + 100), .int .i64 (o + 400)]) 51 rfl rfl).1, (At.new (W := v2) (i := 1) (v := .int .i64 (o + 400)) (vs := #[.int .i64 (o + 100), .int .i64 (o + 400)]) 51 rfl rfl).1⟩⟩⟩, fun _ ad e => by cases e; have := HS.out.lt; dsimp only; omega⟩
          have HIN := Lib.hid hin
          clear hin
          replace HS := Lib.hid (HS.out.below hb)
          replace HT := Lib.hid (HT.out.below hb)
          replace HU := Lib.hid (HU.out.below hb)
          replace HB := Lib.hid (HB.out.trans (hb.mono HB.out.size))
          clear hb
          have hml0 := HS.out.lt
          generalize v2.heap.size = M at HIN ⊢
          generalize v2.alloc (.cells #[.int .i64 (o + 100), .int .i64 (o + 400)] 51) = va at HS HT HU HB HIN hml0 ⊢
          refine (scacked_any Bs lb (scE o) o (some ⟨M, 0, none⟩) 1 [(o + 100, o + 400)] _ HK0.out HS.out HIN.out (by simp [scE])).mono ?_
          rintro e v3 ⟨rfl, hS, hc⟩
          replace HB := Lib.hid (below_chg HB.out hNs HS.out.lt hc)
          replace HT := Lib.hid (HT.out.other hc (by omega))
          replace HU := Lib.hid (HU.out.other hc (by omega))
          rw [HR2.out.1] at hS
          replace HS := Lib.hid hS
          clear hS hc
          rw [HR2.out.2]
          generalize (scE o).ackN o [(o + 100, o + 400)] = an
          clear HIN hml0
          go_wp2_with fail
          refine (sclost_any Bs lb (scA o) 100 _ HK3.out HS.out).mono ?_
          rintro e v4 ⟨vl, rfl, hO, hb⟩
          rw [HR3.out] at hO
          obtain ⟨la, lc, rfl, hsp, -, -⟩ := hO.at (by simp)
          obtain ⟨lb1, lo1, rfl, hlb1, hlc⟩ := hsp.cells (by simp)
          obtain ⟨q0, q1⟩ := hlc 0 (by simp)
          clear hO hsp hlc
          replace HS := Lib.hid (HS.out.below hb)
          replace HT := Lib.hid (HT.out.below hb)
          replace HU := Lib.hid (HU.out.below hb)
          replace HB := Lib.hid (HB.out.trans (hb.mono HB.out.size))
          clear hb
          simp only [List.getElem_cons_zero, Nat.zero_mul, Nat.add_zero] at q0 q1
          go_wp2_with fail
          clear q0 q1
          refine (scretransmitted_any Bs lb (scA o) o (o + 100) _ HK3.out HS.out).mono ?_
          rintro e v5 ⟨rfl, hS, hc⟩
          replace HB := Lib.hid (below_chg HB.out hNs HS.out.lt hc)
          replace HT := Lib.hid (HT.out.other hc (by omega))
          replace HU := Lib.hid (HU.out.other hc (by omega))
          rw [HR4.out.1] at hS
          replace HS := Lib.hid hS
          clear hS hc
          rw [HR4.out.2]
          go_wp2_with fail
          refine (sclost_any Bs lb (scB o) 100 _ HK4.out HS.out).mono ?_
          rintro e v6 ⟨vl, rfl, hO, hb⟩
          rw [HR5.out] at hO
          obtain ⟨la2, lc2, rfl, -, -, -⟩ := hO.at (by simp)
          clear hO
          replace HS := Lib.hid (HS.out.below hb)
          replace HT := Lib.hid (HT.out.below hb)
          replace HU := Lib.hid (HU.out.below hb)
          replace HB := Lib.hid (HB.out.trans (hb.mono HB.out.size))
          clear hb
          go_wp2_with fail
          refine (retr_any Bt _ _ HT.out).mono ?_
          rintro e v7 ⟨rfl, hT, hc⟩
          replace HB := Lib.hid (below_chg HB.out hNt2 HT.out.lt hc)
          replace HS := Lib.hid (HS.out.other hc (by omega) (by omega))
          replace HU := Lib.hid (HU.out.other hc (by omega))
          replace HT := Lib.hid hT
          clear hT hc
          go_wp2_with fail
          refine (scacked_any Bs lb (scB o) (o + 400) none 0 [] _ HK4.out HS.out ⟨⟨by simp, fun h => absurd h (by simp)⟩, fun h => absurd h (by simp)⟩ (by rw [List.append_nil]; exact by show [(o + 100, o + 400)].length ≤ _; simp)).mono ?_
          rintro e v8 ⟨rfl, hS, hc⟩
          replace HB := Lib.hid (below_chg HB.out hNs HS.out.lt hc)
          replace HT := Lib.hid (HT.out.other hc (by omega))
          replace HU := Lib.hid (HU.out.other hc (by omega))
          rw [HR7.out.1] at hS
          replace HS := Lib.hid hS
          clear hS hc
          rw [HR7.out.2.1, HR7.out.2.2]
          go_wp2_with fail
          refine (acked_any Bt _ (n + z) (o + 400) (by unfold In64; omega) (Tm.retr_fit (Tm.sent_fit HE.out.ft _ _ HI.out)) _ HT.out).mono ?_
          rintro e v9 ⟨rfl, hT, hc⟩
          replace HB := Lib.hid (below_chg HB.out hNt2 HT.out.lt hc)
          replace HS := Lib.hid (HS.out.other hc (by omega) (by omega))
          replace HU := Lib.hid (HU.out.other hc (by omega))
          replace HT := Lib.hid hT
          clear hT hc
          go_wp2_with fail
          refine (acked_any Bu u (n + z) (o + 400) (by unfold In64; omega) HE.out.fu _ HU.out).mono ?_
          rintro e v10 ⟨rfl, hT, hc⟩
          replace HB := Lib.hid (below_chg HB.out hNu2 HU.out.lt hc)
          replace HS := Lib.hid (HS.out.other hc (by omega) (by omega))
          replace HT := Lib.hid (HT.out.other hc (by omega))
          replace HU := Lib.hid hT
          clear hT hc
          go_wp2_with fail
          refine (scsacked_any Bs lb _ _ HS.out).mono ?_
          rintro e v11 ⟨vs, rfl, hO, hb⟩
          obtain ⟨sa, scap, rfl, hsp, -, -⟩ := hO.at (by show ([] : List Sp).length ≤ _; simp)
          have HSP := Lib.hid hsp
          clear hO hsp
          replace HS := Lib.hid (HS.out.below hb)
          replace HT := Lib.hid (HT.out.below hb)
          replace HU := Lib.hid (HU.out.below hb)
          replace HB := Lib.hid (HB.out.trans (hb.mono HB.out.size))
          clear hb
          rw [show (scR (o + 400)).sk = [] from rfl]
          go_wp2_with fail
          refine (count_any v11 v11.heap.size sa scap [] HSP.out (Nat.le_refl _)).mono ?_
          rintro e v12 ⟨rfl, hb⟩
          replace HS := Lib.hid (HS.out.below hb)
          replace HT := Lib.hid (HT.out.below hb)
          replace HU := Lib.hid (HU.out.below hb)
          replace HB := Lib.hid (HB.out.trans (hb.mono HB.out.size))
          clear hb
          rw [show countL [] = 0 from rfl]
          go_wp2_with fail
          refine (scpipe_any Bs lb (scR (o + 400)) 100 _ HK5.out HS.out).mono ?_
          rintro e v13 ⟨rfl, hb⟩
          replace HS := Lib.hid (HS.out.below hb)
          replace HT := Lib.hid (HT.out.below hb)
          replace HU := Lib.hid (HU.out.below hb)
          replace HB := Lib.hid (HB.out.trans (hb.mono HB.out.size))
          clear hb
          rw [HR8.out]
          go_wp2_with fail
          have HQ := Lib.hid (HE.out.odd (now := n) (now' := n + z) (n := o + 100) (una := o + 400) HI.out)
          refine (value_any Bt _ HQ.out.ft.1 _ HT.out).mono ?_
          rintro e v14 ⟨rfl, hb⟩
          replace HS := Lib.hid (HS.out.below hb)
          replace HT := Lib.hid (HT.out.below hb)
          replace HU := Lib.hid (HU.out.below hb)
          replace HB := Lib.hid (HB.out.trans (hb.mono HB.out.size))
          clear hb
          go_wp2_with fail
          refine (value_any Bu _ HQ.out.fu.1 _ HU.out).mono ?_
          rintro e v15 ⟨rfl, hb⟩
          replace HS := Lib.hid (HS.out.below hb)
          replace HT := Lib.hid (HT.out.below hb)
          replace HU := Lib.hid (HU.out.below hb)
          replace HB := Lib.hid (HB.out.trans (hb.mono HB.out.size))
          clear hb
          rw [HQ.out.value]
          go_wp2_with fail
          go_roundw
          case rel => exact ⟨k + 1, n + z, _, _, by omega, by go_num, rfl, by rw [HK.out], ⟨by omega, by rw [HK2.out]; omega⟩, HQ.out, by rw [HK.out]; exact HS.out, HT.out, HU.out, HB.out⟩
          case measure => simp [intOf]; omega
        · refine (sent_any Bu u n (o + 100) _ HU.out).mono ?_
          rintro e v3 ⟨rfl, hT, hc⟩
          replace HB := Lib.hid (below_chg HB.out hNu2 HU.out.lt hc)
          replace HS := Lib.hid (HS.out.other hc (by omega) (by omega))
          replace HT := Lib.hid (HT.out.other hc (by omega))
          replace HU := Lib.hid hT
          clear hT hc
          go_wp2_with fail
          refine (scacked_any Bs lb (scE o) (o + 400) none 0 [] _ HK0.out HS.out ⟨⟨by simp, fun h => absurd h (by simp)⟩, fun h => absurd h (by simp)⟩ (by rw [List.append_nil]; exact by show ([] : List Sp).length ≤ _; simp)).mono ?_
          rintro e v4 ⟨rfl, hS, hc⟩
          replace HB := Lib.hid (below_chg HB.out hNs HS.out.lt hc)
          replace HT := Lib.hid (HT.out.other hc (by omega))
          replace HU := Lib.hid (HU.out.other hc (by omega))
          rw [HR6.out.1] at hS
          replace HS := Lib.hid hS
          clear hS hc
          rw [HR6.out.2.1, HR6.out.2.2]
          go_wp2_with fail
          refine (acked_any Bt _ (n + z) (o + 400) (by unfold In64; omega) (Tm.sent_fit HE.out.ft _ _ HI.out) _ HT.out).mono ?_
          rintro e v5 ⟨rfl, hT, hc⟩
          replace HB := Lib.hid (below_chg HB.out hNt2 HT.out.lt hc)
          replace HS := Lib.hid (HS.out.other hc (by omega) (by omega))
          replace HU := Lib.hid (HU.out.other hc (by omega))
          replace HT := Lib.hid hT
          clear hT hc
          go_wp2_with fail
          refine (acked_any Bu _ (n + z) (o + 400) (by unfold In64; omega) (Tm.sent_fit HE.out.fu _ _ HI.out) _ HU.out).mono ?_
          rintro e v6 ⟨rfl, hT, hc⟩
          replace HB := Lib.hid (below_chg HB.out hNu2 HU.out.lt hc)
          replace HS := Lib.hid (HS.out.other hc (by omega) (by omega))
          replace HT := Lib.hid (HT.out.other hc (by omega))
          replace HU := Lib.hid hT
          clear hT hc
          go_wp2_with fail
          refine (scsacked_any Bs lb _ _ HS.out).mono ?_
          rintro e v7 ⟨vs, rfl, hO, hb⟩
          obtain ⟨sa, scap, rfl, hsp, -, -⟩ := hO.at (by show ([] : List Sp).length ≤ _; simp)
          have HSP := Lib.hid hsp
          clear hO hsp
          replace HS := Lib.hid (HS.out.below hb)
          replace HT := Lib.hid (HT.out.below hb)
          replace HU := Lib.hid (HU.out.below hb)
          replace HB := Lib.hid (HB.out.trans (hb.mono HB.out.size))
          clear hb
          rw [show (scR (o + 400)).sk = [] from rfl]
          go_wp2_with fail
          refine (count_any v7 v7.heap.size sa scap [] HSP.out (Nat.le_refl _)).mono ?_
          rintro e v8 ⟨rfl, hb⟩
          replace HS := Lib.hid (HS.out.below hb)
          replace HT := Lib.hid (HT.out.below hb)
          replace HU := Lib.hid (HU.out.below hb)
          replace HB := Lib.hid (HB.out.trans (hb.mono HB.out.size))
          clear hb
          rw [show countL [] = 0 from rfl]
          go_wp2_with fail
          refine (scpipe_any Bs lb (scR (o + 400)) 100 _ HK5.out HS.out).mono ?_
          rintro e v9 ⟨rfl, hb⟩
          replace HS := Lib.hid (HS.out.below hb)
          replace HT := Lib.hid (HT.out.below hb)
          replace HU := Lib.hid (HU.out.below hb)
          replace HB := Lib.hid (HB.out.trans (hb.mono HB.out.size))
          clear hb
          rw [HR8.out]
          go_wp2_with fail
          have HQ := Lib.hid (HE.out.even (now := n) (now' := n + z) (n := o + 100) (una := o + 400) (by omega) HI.out)
          refine (value_any Bt _ HQ.out.ft.1 _ HT.out).mono ?_
          rintro e v10 ⟨rfl, hb⟩
          replace HS := Lib.hid (HS.out.below hb)
          replace HT := Lib.hid (HT.out.below hb)
          replace HU := Lib.hid (HU.out.below hb)
          replace HB := Lib.hid (HB.out.trans (hb.mono HB.out.size))
          clear hb
          go_wp2_with fail
          refine (value_any Bu _ HQ.out.fu.1 _ HU.out).mono ?_
          rintro e v11 ⟨rfl, hb⟩
          replace HS := Lib.hid (HS.out.below hb)
          replace HT := Lib.hid (HT.out.below hb)
          replace HU := Lib.hid (HU.out.below hb)
          replace HB := Lib.hid (HB.out.trans (hb.mono HB.out.size))
          clear hb
          rw [HQ.out.value]
          go_wp2_with fail
          go_roundw
          case rel => exact ⟨k + 1, n + z, _, _, by omega, by go_num, rfl, by rw [HK.out], ⟨by omega, by rw [HK2.out]; omega⟩, HQ.out, by rw [HK.out]; exact HS.out, HT.out, HU.out, HB.out⟩
          case measure => simp [intOf]; omega
      · obtain rfl : k = 30 := by omega
        go_wp2_with fail
        go_ret
        exact ⟨rfl, HB.out⟩
    · obtain rfl : k = len := by omega
      go_wp2_with fail
      go_ret
      exact ⟨rfl, HB.out⟩
end Go.Proofs.Ytncjeleabpodaaa
