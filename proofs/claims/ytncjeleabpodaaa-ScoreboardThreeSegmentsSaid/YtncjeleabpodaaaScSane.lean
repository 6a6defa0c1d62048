/- Law 14's sane. -/
import Derived.Test.YtncjeleabpodaaaScPk
import Derived.Test.YtncjeleabpodaaaScLs
import Derived.Test.YtncjeleabpodaaaRfSame
namespace Go.Proofs.Ytncjeleabpodaaa
open Go.RowKit Go.Shelf
def sA : Sc := ⟨0, 100, 0, [], []⟩
def sB : Sc := ⟨10, 100, 0, [(20, 40)], []⟩
def sC : Sc := ⟨10, 100, 0, [(20, 50)], []⟩
def sD : Sc := ⟨10, 100, 0, [(20, 50)], [(10, 20)]⟩
def sE : Sc := ⟨10, 100, 100, [], []⟩
theorem sA_ok : sA.Ok := sc0_ok.sent 100
theorem sA_1 : sA.acked 10 [(20, 40)] = sB ∧ sA.ackN 10 [(20, 40)] = 30 ∧ sA.ackE 10 [(20, 40)] = 0 := ⟨rfl, rfl, rfl⟩
theorem sB_ok : sB.Ok := sA_1.1 ▸ sA_ok.acked 10 [(20, 40)]
theorem sB_l : sB.lost 10 = [] ∧ sB.pipe 10 = 70 := ⟨rfl, rfl⟩
theorem sB_1 : sB.acked 0 [(40, 50)] = sC ∧ sB.ackN 0 [(40, 50)] = 10 ∧ sB.ackE 0 [(40, 50)] = 0 := ⟨rfl, rfl, rfl⟩
theorem sC_ok : sC.Ok := sB_1.1 ▸ sB_ok.acked 0 [(40, 50)]
theorem sC_l : sC.lost 10 = [(10, 20)] ∧ sC.pipe 10 = 50 := ⟨rfl, rfl⟩
theorem sC_1 : sC.ret (10, 20) = sD ∧ sC.retE (10, 20) = 0 := ⟨rfl, rfl⟩
theorem sD_ok : sD.Ok := sC_1.1 ▸ sC_ok.ret (10, 20)
theorem sD_l : sD.lost 10 = [] ∧ sD.pipe 10 = 60 := ⟨rfl, rfl⟩
theorem sD_1 : sD.acked 101 [] = sD ∧ sD.ackN 101 [] = 0 ∧ sD.ackE 101 [] = 140 := ⟨rfl, rfl, rfl⟩
theorem sD_2 : sD.acked 10 [(90, 101)] = sD ∧ sD.ackN 10 [(90, 101)] = 0 ∧ sD.ackE 10 [(90, 101)] = 140 := ⟨rfl, rfl, rfl⟩
theorem sE_ok : sE.Ok := sD_ok.timeout
theorem sE_l : sE.lost 10 = [(10, 100)] ∧ sE.pipe 10 = 0 := ⟨rfl, rfl⟩
theorem spat_one (v : World) (a b : Int) : SpAt (v.alloc (.cells #[.int .i64 a, .int .i64 b] 51)) (v.alloc (.cells #[.int .i64 a, .int .i64 b] 51)).heap.size (some ⟨v.heap.size, 0, none⟩) [(a, b)] :=
  ⟨by simp, fun _ => ⟨v.heap.size, 0, rfl, by simp, fun i hi => by obtain rfl : i = 0 := (by simpa using hi); exact ⟨(At.new (W := v) (i := 0) (v := .int .i64 a) (vs := #[.int .i64 a, .int .i64 b]) 51 rfl rfl).1, (At.new (W := v) (i := 1) (v := .int .i64 b) (vs := #[.int .i64 a, .int .i64 b]) 51 rfl rfl).1⟩⟩⟩
theorem inl_one {v : World} {B : Nat} {a b : Int} (h : B < v.heap.size) : InL B (some ⟨v.heap.size, 0, none⟩) [(a, b)] (v.alloc (.cells #[.int .i64 a, .int .i64 b] 51)) :=
  ⟨spat_one v a b, fun _ ad e => by cases e; dsimp only; omega⟩
theorem scsent_nil (t : Int) (w : World) : Calls Try.prog 37 #[.pointer none, .int .i64 t] w fun e w' => e = .returned (.int .i64 1) ∧ Below w.heap.size w w' := by
  go_enter Try.func37, Try.ntmps37
  go_wp2_with fail
  refine (unless_err_nil _ _).mono ?_
  rintro e w1 ⟨rfl, rfl⟩
  go_wp2_with fail
  go_ret
  exact ⟨rfl, ((Below.refl w.heap.size w).alloc (Nat.le_refl _) _).alloc (by simp) _⟩
theorem scpipe_nil (t : Int) (w : World) : Calls Try.prog 31 #[.pointer none, .int .i64 t] w fun e w' => e = .returned (.int .i64 0) ∧ Below w.heap.size w w' := by
  go_enter Try.func31, Try.ntmps31
  go_wp2_with fail
  refine (unless_int_nil _ _).mono ?_
  rintro e w1 ⟨rfl, rfl⟩
  go_wp2_with fail
  go_ret
  exact ⟨rfl, ((Below.refl w.heap.size w).alloc (Nat.le_refl _) _).alloc (by simp) _⟩
theorem scret_nil (a b : Int) (w : World) : Calls Try.prog 32 #[.pointer none, .agg #[.int .i64 a, .int .i64 b]] w fun e w' => e = .returned (.int .i64 1) ∧ Below w.heap.size w w' := by
  go_enter Try.func32, Try.ntmps32
  go_wp2_with fail
  refine (unless_err_nil _ _).mono ?_
  rintro e w1 ⟨rfl, rfl⟩
  go_wp2_with fail
  go_ret
  exact ⟨rfl, ((Below.refl w.heap.size w).alloc (Nat.le_refl _) _).alloc (by simp) _⟩
set_option maxRecDepth 100000 in
set_option maxHeartbeats 4000000 in
theorem sane_any (w : World) : Calls Try.prog 21 #[] w fun e w' => e = .returned (.bool true) ∧ Below w.heap.size w w' := by
  go_enter Try.func21, Try.ntmps21
  go_wp2_with fail
  refine (scnew_any _).mono ?_
  rintro e v1 ⟨rfl, hw⟩
  have hbw : Below w.heap.size w v1 := by rw [hw]; exact (Below.refl _ w).alloc (Nat.le_refl _) _
  have hs0 := (ScAt.new (lb := w.heap.size + 1) hw)
  have hs : ScAt w.heap.size (w.heap.size + 1) sc0 v1 := hs0.2 v1 (Below.refl _ _) (by omega) hs0.1
  have HS := Lib.hid hs
  have HB := Lib.hid hbw
  clear hs0 hs hbw hw
  obtain ⟨Bs, hBs⟩ : ∃ Bs, Bs = w.heap.size := ⟨_, rfl⟩
  rw [← hBs] at HS ⊢
  have hNs : w.heap.size ≤ Bs := by omega
  clear hBs
  go_wp2_with fail
  refine (scsent_any Bs _ sc0 100 _ HS.out).mono ?_
  rintro e v2 ⟨rfl, hS, hc⟩
  replace HB := Lib.hid (HB.out.trans (hc.below hNs HS.out.lt))
  rw [show sc0.sent 100 = sA from rfl] at hS
  replace HS := Lib.hid hS
  clear hS hc
  rw [show sc0.sentE 100 = 0 from rfl]
  go_wp2_with fail
  have hb := rcBel v2 (.cells #[.int .i64 20, .int .i64 40] 51)
  have hin : InL Bs (some ⟨v2.heap.size, 0, none⟩) [(20, 40)] (v2.alloc (.cells #[.int .i64 20, .int .i64 40] 51)) := inl_one (by have := HS.out.lt; omega)
  have HIN := Lib.hid hin
  clear hin
  replace HS := Lib.hid (HS.out.below hb)
  replace HB := Lib.hid (HB.out.trans (hb.mono HB.out.size))
  clear hb
  generalize v2.heap.size = M at HIN ⊢
  generalize v2.alloc (.cells #[.int .i64 20, .int .i64 40] 51) = v3 at HS HB HIN ⊢
  refine (scacked_any Bs _ sA 10 _ 1 [(20, 40)] _ sA_ok HS.out HIN.out (by simp [sA])).mono ?_
  rintro e v4 ⟨rfl, hS, hc⟩
  replace HB := Lib.hid (HB.out.trans (hc.below hNs HS.out.lt))
  rw [sA_1.1] at hS
  replace HS := Lib.hid hS
  clear hS hc
  rw [sA_1.2.1, sA_1.2.2]
  go_wp2_with fail
  refine (sclost_any Bs _ sB 10 _ sB_ok HS.out).mono ?_
  rintro e v5 ⟨vl, rfl, hO, hb⟩
  rw [sB_l.1] at hO
  replace HS := Lib.hid (HS.out.below hb)
  replace HB := Lib.hid (HB.out.trans (hb.mono HB.out.size))
  clear hb
  obtain ⟨la, lc, rfl, -⟩ := hO.val
  clear hO
  go_wp2_with fail
  refine (scpipe_any Bs _ sB 10 _ sB_ok HS.out).mono ?_
  rintro e v6 ⟨rfl, hb⟩
  replace HS := Lib.hid (HS.out.below hb)
  replace HB := Lib.hid (HB.out.trans (hb.mono HB.out.size))
  clear hb
  rw [sB_l.2]
  go_wp2_with fail
  have hb := rcBel v6 (.cells #[.int .i64 40, .int .i64 50] 51)
  have hin : InL Bs (some ⟨v6.heap.size, 0, none⟩) [(40, 50)] (v6.alloc (.cells #[.int .i64 40, .int .i64 50] 51)) := inl_one (by have := HS.out.lt; omega)
  have HIN := Lib.hid hin
  clear hin
  replace HS := Lib.hid (HS.out.below hb)
  replace HB := Lib.hid (HB.out.trans (hb.mono HB.out.size))
  clear hb
  generalize v6.heap.size = M at HIN ⊢
  generalize v6.alloc (.cells #[.int .i64 40, .int .i64 50] 51) = v7 at HS HB HIN ⊢
  refine (scacked_any Bs _ sB 0 _ 1 [(40, 50)] _ sB_ok HS.out HIN.out (by simp [sB])).mono ?_
  rintro e v8 ⟨rfl, hS, hc⟩
  replace HB := Lib.hid (HB.out.trans (hc.below hNs HS.out.lt))
  rw [sB_1.1] at hS
  replace HS := Lib.hid hS
  clear hS hc
  rw [sB_1.2.1, sB_1.2.2]
  go_wp2_with fail
  refine (sclost_any Bs _ sC 10 _ sC_ok HS.out).mono ?_
  rintro e v9 ⟨vl, rfl, hO, hb⟩
  rw [sC_l.1] at hO
  replace HS := Lib.hid (HS.out.below hb)
  replace HB := Lib.hid (HB.out.trans (hb.mono HB.out.size))
  clear hb
  obtain ⟨la, lc, rfl, hsp, -, -⟩ := hO.at (by simp)
  have HSP := Lib.hid hsp
  clear hO hsp
  go_wp2_with fail
  have hb := rcBel v9 (.cells #[.int .i64 10, .int .i64 20] 51)
  have hq : SpAt (v9.alloc (.cells #[.int .i64 10, .int .i64 20] 51)) (v9.alloc (.cells #[.int .i64 10, .int .i64 20] 51)).heap.size (some ⟨v9.heap.size, 0, none⟩) [(10, 20)] := spat_one v9 10 20
  have hsp : SpAt (v9.alloc (.cells #[.int .i64 10, .int .i64 20] 51)) (v9.alloc (.cells #[.int .i64 10, .int .i64 20] 51)).heap.size la [(10, 20)] := (HSP.out.below hb).mono hb.size
  replace HS := Lib.hid (HS.out.below hb)
  replace HB := Lib.hid (HB.out.trans (hb.mono HB.out.size))
  clear hb
  have HQ := Lib.hid hq
  have HSP2 := Lib.hid hsp
  clear hq hsp HSP
  generalize v9.heap.size = M at HQ ⊢
  generalize v9.alloc (.cells #[.int .i64 10, .int .i64 20] 51) = v10 at HS HB HQ HSP2 ⊢
  refine (rsame_any v10 v10.heap.size la _ lc 1 [(10, 20)] [(10, 20)] HSP2.out HQ.out (Nat.le_refl _)).mono ?_
  rintro e v11 ⟨rfl, hb⟩
  replace HS := Lib.hid (HS.out.below hb)
  replace HB := Lib.hid (HB.out.trans (hb.mono HB.out.size))
  clear hb
  clear HQ HSP2
  go_wp2_with fail
  refine (scpipe_any Bs _ sC 10 _ sC_ok HS.out).mono ?_
  rintro e v12 ⟨rfl, hb⟩
  replace HS := Lib.hid (HS.out.below hb)
  replace HB := Lib.hid (HB.out.trans (hb.mono HB.out.size))
  clear hb
  rw [sC_l.2]
  go_wp2_with fail
  refine (scretransmitted_any Bs _ sC 10 20 _ sC_ok HS.out).mono ?_
  rintro e v13 ⟨rfl, hS, hc⟩
  replace HB := Lib.hid (HB.out.trans (hc.below hNs HS.out.lt))
  rw [sC_1.1] at hS
  replace HS := Lib.hid hS
  clear hS hc
  rw [sC_1.2]
  go_wp2_with fail
  refine (sclost_any Bs _ sD 10 _ sD_ok HS.out).mono ?_
  rintro e v14 ⟨vl, rfl, hO, hb⟩
  rw [sD_l.1] at hO
  replace HS := Lib.hid (HS.out.below hb)
  replace HB := Lib.hid (HB.out.trans (hb.mono HB.out.size))
  clear hb
  obtain ⟨la, lc, rfl, -⟩ := hO.val
  clear hO
  go_wp2_with fail
  refine (scpipe_any Bs _ sD 10 _ sD_ok HS.out).mono ?_
  rintro e v15 ⟨rfl, hb⟩
  replace HS := Lib.hid (HS.out.below hb)
  replace HB := Lib.hid (HB.out.trans (hb.mono HB.out.size))
  clear hb
  rw [sD_l.2]
  go_wp2_with fail
  refine (scacked_any Bs _ sD 101 none 0 [] _ sD_ok HS.out ⟨⟨by simp, fun h => absurd h (by simp)⟩, fun h => absurd h (by simp)⟩ (by simp [sD])).mono ?_
  rintro e v16 ⟨rfl, hS, hc⟩
  replace HB := Lib.hid (HB.out.trans (hc.below hNs HS.out.lt))
  rw [sD_1.1] at hS
  replace HS := Lib.hid hS
  clear hS hc
  rw [sD_1.2.1, sD_1.2.2]
  go_wp2_with fail
  have hb := rcBel v16 (.cells #[.int .i64 90, .int .i64 101] 51)
  have hin : InL Bs (some ⟨v16.heap.size, 0, none⟩) [(90, 101)] (v16.alloc (.cells #[.int .i64 90, .int .i64 101] 51)) := inl_one (by have := HS.out.lt; omega)
  have HIN := Lib.hid hin
  clear hin
  replace HS := Lib.hid (HS.out.below hb)
  replace HB := Lib.hid (HB.out.trans (hb.mono HB.out.size))
  clear hb
  generalize v16.heap.size = M at HIN ⊢
  generalize v16.alloc (.cells #[.int .i64 90, .int .i64 101] 51) = v17 at HS HB HIN ⊢
  refine (scacked_any Bs _ sD 10 _ 1 [(90, 101)] _ sD_ok HS.out HIN.out (by simp [sD])).mono ?_
  rintro e v18 ⟨rfl, hS, hc⟩
  replace HB := Lib.hid (HB.out.trans (hc.below hNs HS.out.lt))
  rw [sD_2.1] at hS
  replace HS := Lib.hid hS
  clear hS hc
  rw [sD_2.2.1, sD_2.2.2]
  go_wp2_with fail
  refine (scsent_any Bs _ sD 99 _ HS.out).mono ?_
  rintro e v19 ⟨rfl, hS, hc⟩
  replace HB := Lib.hid (HB.out.trans (hc.below hNs HS.out.lt))
  rw [show sD.sent 99 = sD from rfl] at hS
  replace HS := Lib.hid hS
  clear hS hc
  rw [show sD.sentE 99 = 140 from rfl]
  go_wp2_with fail
  refine (sctimeout_any Bs _ sD _ HS.out).mono ?_
  rintro e v20 ⟨rfl, hS, hc⟩
  replace HB := Lib.hid (HB.out.trans (hc.below hNs HS.out.lt))
  rw [show sD.timeout = sE from rfl] at hS
  replace HS := Lib.hid hS
  clear hS hc
  go_wp2_with fail
  refine (sclost_any Bs _ sE 10 _ sE_ok HS.out).mono ?_
  rintro e v21 ⟨vl, rfl, hO, hb⟩
  rw [sE_l.1] at hO
  replace HS := Lib.hid (HS.out.below hb)
  replace HB := Lib.hid (HB.out.trans (hb.mono HB.out.size))
  clear hb
  obtain ⟨la, lc, rfl, hsp, -, -⟩ := hO.at (by simp)
  have HSP := Lib.hid hsp
  clear hO hsp
  go_wp2_with fail
  have hb := rcBel v21 (.cells #[.int .i64 10, .int .i64 100] 51)
  have hq : SpAt (v21.alloc (.cells #[.int .i64 10, .int .i64 100] 51)) (v21.alloc (.cells #[.int .i64 10, .int .i64 100] 51)).heap.size (some ⟨v21.heap.size, 0, none⟩) [(10, 100)] := spat_one v21 10 100
  have hsp : SpAt (v21.alloc (.cells #[.int .i64 10, .int .i64 100] 51)) (v21.alloc (.cells #[.int .i64 10, .int .i64 100] 51)).heap.size la [(10, 100)] := (HSP.out.below hb).mono hb.size
  replace HS := Lib.hid (HS.out.below hb)
  replace HB := Lib.hid (HB.out.trans (hb.mono HB.out.size))
  clear hb
  have HQ := Lib.hid hq
  have HSP2 := Lib.hid hsp
  clear hq hsp HSP
  generalize v21.heap.size = M at HQ ⊢
  generalize v21.alloc (.cells #[.int .i64 10, .int .i64 100] 51) = v22 at HS HB HQ HSP2 ⊢
  refine (rsame_any v22 v22.heap.size la _ lc 1 [(10, 100)] [(10, 100)] HSP2.out HQ.out (Nat.le_refl _)).mono ?_
  rintro e v23 ⟨rfl, hb⟩
  replace HS := Lib.hid (HS.out.below hb)
  replace HB := Lib.hid (HB.out.trans (hb.mono HB.out.size))
  clear hb
  clear HQ HSP2
  go_wp2_with fail
  refine (scpipe_any Bs _ sE 10 _ sE_ok HS.out).mono ?_
  rintro e v24 ⟨rfl, hb⟩
  replace HS := Lib.hid (HS.out.below hb)
  replace HB := Lib.hid (HB.out.trans (hb.mono HB.out.size))
  clear hb
  rw [sE_l.2]
  go_wp2_with fail
  refine (scsacked_any Bs _ sE _ HS.out).mono ?_
  rintro e v25 ⟨vs, rfl, hO, hb⟩
  replace HS := Lib.hid (HS.out.below hb)
  replace HB := Lib.hid (HB.out.trans (hb.mono HB.out.size))
  clear hb
  rw [show sE.sk = [] from rfl] at hO
  obtain ⟨la, lc, rfl, -⟩ := hO.val
  clear hO
  go_wp2_with fail
  refine (scuna_any Bs _ sE _ HS.out).mono ?_
  rintro e v26 ⟨rfl, hb⟩
  replace HS := Lib.hid (HS.out.below hb)
  replace HB := Lib.hid (HB.out.trans (hb.mono HB.out.size))
  clear hb
  rw [show sE.una = 10 from rfl]
  go_wp2_with fail
  refine (scnext_any Bs _ sE _ HS.out).mono ?_
  rintro e v27 ⟨rfl, hb⟩
  replace HS := Lib.hid (HS.out.below hb)
  replace HB := Lib.hid (HB.out.trans (hb.mono HB.out.size))
  clear hb
  rw [show sE.next = 100 from rfl]
  go_wp2_with fail
  refine (scsent_nil 0 _).mono ?_
  rintro e v28 ⟨rfl, hb⟩
  replace HS := Lib.hid (HS.out.below hb)
  replace HB := Lib.hid (HB.out.trans (hb.mono HB.out.size))
  clear hb
  go_wp2_with fail
  refine (scpipe_nil 1 _).mono ?_
  rintro e v29 ⟨rfl, hb⟩
  replace HS := Lib.hid (HS.out.below hb)
  replace HB := Lib.hid (HB.out.trans (hb.mono HB.out.size))
  clear hb
  go_wp2_with fail
  refine (scret_nil 0 1 _).mono ?_
  rintro e v30 ⟨rfl, hb⟩
  replace HS := Lib.hid (HS.out.below hb)
  replace HB := Lib.hid (HB.out.trans (hb.mono HB.out.size))
  clear hb
  go_wp2_with fail
  go_ret
  exact ⟨rfl, HB.out⟩
end Go.Proofs.Ytncjeleabpodaaa
