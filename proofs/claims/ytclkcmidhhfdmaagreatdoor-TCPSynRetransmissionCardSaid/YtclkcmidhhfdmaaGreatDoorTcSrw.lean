/- TCPSynRetransmission: its walk. -/
import Derived.Test.YtclkcmidhhfdmaaGreatDoorUb37
import Derived.Test.YtclkcmidhhfdmaaGreatDoorTcSrt
import Derived.Test.YtclkcmidhhfdmaaGreatDoorTcSms
namespace Go.Proofs.YtclkcmidhhfdmaaGreatDoor
open Go.ChangeShapes Go.WideShapes Go.ChangeAt Go.RowKit Go.Shelf
theorem OwnS.none {w : World} {base : Nat} {v : Value} (h : OwnS w base v []) : ∃ a cap, v = .slice a 0 cap := by
  obtain ⟨M, e, hM⟩ := h
  obtain rfl : M = [] := by simpa using e
  obtain ⟨a, cap, hv, -⟩ := hM.val
  exact ⟨a, cap, hv⟩
/-- The connection at the end. -/
def synE (x : Rw) (s : Ss) : Cn := { synK x s with tries := s.tries + 1, st := 0, err := 182 }
theorem synK_in (x : Rw) (s : Ss) : (synK x s).st = 1 := rfl
structure SrB (s : Ss) (j : Int) : Prop where
  l0 : 0 ≤ s.last
  l1 : s.last ≤ j
  g0 : 0 ≤ s.gap
  g1 : s.gap ≤ 5000
  m0 : 0 ≤ s.many
  m1 : s.many ≤ j
  set : s.dl.set = true
theorem SrB.next {s : Ss} {j : Int} (h : SrB s j) : SrB s (j + 1) := ⟨h.l0, by have := h.l1; omega, h.g0, h.g1, h.m0, by have := h.m1; omega, h.set⟩
theorem SrB.go {s : Ss} {j : Int} (h : SrB s j) (hj : j ≤ 4000) : SrB (s.go (j + 1)) (j + 1) := ⟨by have := h.l0; have := h.l1; show 0 ≤ j + 1; omega, by show j + 1 ≤ j + 1; omega, by have := h.l1; show 0 ≤ j + 1 - s.last; omega, by have := h.l0; show j + 1 - s.last ≤ 5000; omega, by have := h.m0; show 0 ≤ s.many + 1; omega, by have := h.m1; show s.many + 1 ≤ j + 1; omega, rfl⟩
set_option maxRecDepth 100000 in
set_option maxHeartbeats 8000000 in
theorem walk_TCPSynRetransmission (W : World) (x : Rw) (hx : x.In) (gl : Gl W) :
    Calls Tryz.prog 8 #[.agg (rwL x).toArray] W fun e W' => e = .returned (.bool true) ∧ Below W.heap.size W W' := by
  have HX := Lib.hid hx
  have HG := Lib.hid gl
  clear hx gl
  have HR := Lib.hid (RowB.new W 23 (rwL x))
  have HB := Lib.hid ((Below.refl W.heap.size W).alloc (Nat.le_refl _) (.cells (rwL x).toArray 23))
  go_enter Tryz.func8, Tryz.ntmps8
  go_upto_region 1 with fail
  change Code.wp _ _ _ _ (W.alloc (.cells (rwL x).toArray 23))
  obtain ⟨W0, hW0⟩ : ∃ W0, W0 = W.heap.size := ⟨_, rfl⟩
  rw [← hW0] at HR ⊢
  clear hW0
  generalize W.alloc (.cells (rwL x).toArray 23) = w1 at HR HB ⊢
  go_wp2_with fail
  refine (tsane_any _ (HG.out.below (HB.out.mono HG.out.top))).mono ?_
  rintro e w2 ⟨rfl, hb⟩
  replace HR := Lib.hid (HR.out.below hb)
  replace HB := Lib.hid (HB.out.trans (hb.mono HB.out.size))
  clear hb
  have HK := Lib.hid (kf_ok x)
  have r0 := HR.out.cell 0 _ rfl
  have r1 := HR.out.cell 1 _ rfl
  have r2 := HR.out.cell 2 _ rfl
  have r3 := HR.out.cell 3 _ rfl
  have r4 := HR.out.cell 4 _ rfl
  have r5 := HR.out.cell 5 _ rfl
  go_wp2_with fail
  refine (tconfigs_any x _ HX.out).mono ?_
  rintro e w3 ⟨rfl, hb⟩
  clear r0 r1 r2 r3 r4 r5
  replace HB := Lib.hid (HB.out.trans (hb.mono HB.out.size))
  clear hb HR
  dsimp only [cfV]
  go_upto_region 3 with fail
  change Code.wp _ _ _ _ ((w3.alloc (.cells (cfL (kfA x)).toArray 52)).alloc (.cells (cfL (kfB x)).toArray 52))
  have HT := Lib.hid (two_new w3 52 (cfL (kfA x)) (cfL (kfB x)))
  replace HB := Lib.hid (HB.out.trans (HT.out.2.2.mono HB.out.size))
  obtain ⟨NA, hNA⟩ : ∃ NA, NA = w3.heap.size := ⟨_, rfl⟩
  rw [← hNA] at HT ⊢
  clear hNA
  generalize (w3.alloc (.cells (cfL (kfA x)).toArray 52)).alloc (.cells (cfL (kfB x)).toArray 52) = w4 at HB HT ⊢
  have a0 := HT.out.1.cell 0 _ rfl
  have a1 := HT.out.1.cell 1 _ rfl
  have a2 := HT.out.1.cell 2 _ rfl
  have a3 := HT.out.1.cell 3 _ rfl
  have a4 := HT.out.1.cell 4 _ rfl
  have a5 := HT.out.1.cell 5 _ rfl
  go_wp2_with fail
  refine (topen_any 0 (kfA x) _ HK.out.1 (HG.out.below (HB.out.mono HG.out.top)) in0).mono ?_
  rintro e w5 ⟨f, v, rfl, ho, hc, hb, hi⟩
  clear a0 a1 a2 a3 a4 a5 HT
  have HI := Lib.hid (show f.Hi W.heap.size from ⟨Nat.le_trans HB.out.size hi.C, Nat.le_trans HB.out.size hi.S, Nat.le_trans HB.out.size hi.T, Nat.le_trans HB.out.size hi.G, Nat.le_trans HB.out.size hi.X, Nat.le_trans HB.out.size hi.R⟩)
  replace HB := Lib.hid (HB.out.trans (hb.mono HB.out.size))
  have HC := Lib.hid (show CnAt f (synK x ss0) w5 from hc)
  have HOK := Lib.hid (show (synK x ss0).Ok from openA_ok x)
  obtain ⟨lo, hlo⟩ : ∃ lo, lo = w4.heap.size := ⟨_, rfl⟩
  rw [← hlo] at ho
  clear hlo
  have HO := Lib.hid (show OwnS w5 lo v [synA x] from ho)
  obtain ⟨gg, cp, -, -, hv, -, -, -⟩ := OwnS.one ho
  subst hv
  clear ho hb hc hi
  go_wp2_with fail
  go_loopg [9, 10, 11, 12] 4001 (fun g lv gv mv nv wr => ∃ (j : Nat) (s : Ss), nv = .int .i64 ((j : Int) + 1) ∧ g + j = 4001 ∧ j ≤ 4000 ∧ lv = .int .i64 s.last ∧ gv = .int .i64 s.gap ∧ mv = .int .i64 s.many ∧ OwnS wr lo (.slice (some ⟨gg, 0, none⟩) 1 cp) [synA x] ∧ ChgF f w5 wr ∧ SrB s (j : Int) ∧ ((∃ n, n + j = 4000 ∧ simL n s = true ∧ CnAt f (synK x s) wr ∧ (synK x s).Ok) ∨ (s.many = 12 ∧ s.gap = 240 ∧ CnAt f (synE x s) wr ∧ (synE x s).Ok)))
  case atStart => exact ⟨0, ss0, rfl, rfl, by decide, rfl, rfl, rfl, HO.out, .refl _ _, ⟨by decide, by decide, by decide, by decide, by decide, by decide, rfl⟩, .inl ⟨4000, rfl, sim0, HC.out, HOK.out⟩⟩
  case round =>
    obtain ⟨j, s, rfl, hgj, hj4, rfl, rfl, rfl, how, hch, hbd, hst⟩ := hrel
    have HW := Lib.hid how
    have HCH := Lib.hid hch
    have HBD := Lib.hid hbd
    obtain ⟨q1, q2, q3, q4, q5, q6, -⟩ := hbd
    clear how hch
    rcases hst with h1 | h1
    · obtain ⟨n, hn, hsim, hcn, hok⟩ := h1
      have HC := Lib.hid hcn
      have HOK := Lib.hid hok
      have HSM := Lib.hid hsim
      clear hcn hok hsim
      by_cases hj5 : j < 4000
      · obtain ⟨n, rfl⟩ : ∃ k, n = k + 1 := ⟨n - 1, by omega⟩
        have hj9 : (j : Int) + 1 ≤ 4000 := by omega
        go_wp2_with fail
        refine (tstate_any f (synK x s) _ HC.out).mono ?_
        rintro e wq ⟨rfl, rfl⟩
        rw [synK_in x s]
        go_wp2_with fail
        have HTK := Lib.hid (ttick_any f (synK x s) ((j : Int) + 1) wr HC.out HOK.out (by unfold In64; omega))
        have HOK2 := Lib.hid (HOK.out.tick (now := (j : Int) + 1) (by unfold In64; omega))
        refine HTK.out.mono ?_
        rintro e w6 ⟨v, rfl, ho2, hc2, hch2⟩
        clear HTK
        have HW2 := Lib.hid (HW.out.chgF HC.out hch2)
        have HCH2 := Lib.hid (HCH.out.trans hch2)
        clear hch2
        rcases sim_cases HSM.out (show (j : Int) + 1 = ((4000 - n : Nat) : Int) by omega) with ⟨hd, hs2⟩ | ⟨hd, ht, hm, hg⟩ | ⟨hd, ht, hg1, hg2, hs2⟩
        · rw [synK_no x s _ HBD.out.set hd] at ho2 hc2
          obtain ⟨a6, c6, rfl⟩ := OwnS.none ho2
          have HOK3 := Lib.hid (show (synK x s).Ok from HOK.out)
          have HC2 := Lib.hid hc2
          have HS2 := Lib.hid hs2
          clear hd hs2 ho2 hc2
          go_wp2_with fail
          go_roundg (gk - 1)
          case measure => omega
          case rel => exact ⟨j + 1, s, by first | rfl | go_num | (have e : wrap64 ((j : Int) + 1 + 1) = ((j + 1 : Nat) : Int) + 1 := (by unfold wrap64; omega); rw [e]), by omega, by omega, rfl, rfl, rfl, HW2.out, HCH2.out, by have := HBD.out.next; rwa [show (j : Int) + 1 = ((j + 1 : Nat) : Int) by omega] at this, .inl ⟨n, by omega, HS2.out, HC2.out, HOK3.out⟩⟩
        · rw [synK_end x s _ hd ht] at ho2 hc2
          have HOK3 := Lib.hid (show (synE x s).Ok from by have := HOK2.out; rw [synK_end x s _ hd ht] at this; exact this)
          obtain ⟨a6, c6, rfl⟩ := OwnS.none ho2
          have HC2 := Lib.hid (show CnAt f (synE x s) w6 from hc2)
          have HMG := Lib.hid (And.intro hm hg)
          clear hd ht hm hg ho2 hc2
          go_wp2_with fail
          go_roundg (gk - 1)
          case measure => omega
          case rel => exact ⟨j + 1, s, by first | rfl | go_num | (have e : wrap64 ((j : Int) + 1 + 1) = ((j + 1 : Nat) : Int) + 1 := (by unfold wrap64; omega); rw [e]), by omega, by omega, rfl, rfl, rfl, HW2.out, HCH2.out, by have := HBD.out.next; rwa [show (j : Int) + 1 = ((j + 1 : Nat) : Int) by omega] at this, .inr ⟨HMG.out.1, HMG.out.2, HC2.out, HOK3.out⟩⟩
        · rw [synK_re x s _ hd ht] at ho2 hc2
          have HOK3 := Lib.hid (show (synK x (s.go ((j : Int) + 1))).Ok from by have := HOK2.out; rw [synK_re x s _ hd ht] at this; exact this)
          have HO2 := Lib.hid ho2
          obtain ⟨g6, p6, -, -, hv6, -, -, -⟩ := OwnS.one ho2
          subst hv6
          have HC2 := Lib.hid hc2
          have HS2 := Lib.hid hs2
          clear hd hs2 ho2 hc2
          go_wp2_with fail
          refine (tsameSegs_one w6 _ _ _ _ (synA x) HO2.out HW2.out).mono ?_
          rintro e w7 ⟨rfl, hb⟩
          have HC7 := Lib.hid (HC2.out.below hb)
          have HW7 := Lib.hid (HW2.out.below hb)
          have HCH7 := Lib.hid (HCH2.out.trans (.ofB hb))
          clear hb
          go_wp2_with fail
          go_roundg (gk - 1)
          case measure => omega
          case rel => exact ⟨j + 1, s.go ((j : Int) + 1), by first | rfl | go_num | (have e : wrap64 ((j : Int) + 1 + 1) = ((j + 1 : Nat) : Int) + 1 := (by unfold wrap64; omega); rw [e]), by omega, by omega, by first | rfl | go_num, by first | rfl | go_num, by first | rfl | go_num, HW7.out, HCH7.out, by have := HBD.out.go (by omega); rwa [show (j : Int) + 1 = ((j + 1 : Nat) : Int) by omega] at this ⊢, .inl ⟨n, by omega, HS2.out, HC7.out, HOK3.out⟩⟩
      · exfalso
        obtain rfl : n = 0 := by omega
        have := HSM.out
        exact Bool.noConfusion this
    · obtain ⟨hm, hg, hcn, hok⟩ := h1
      have HC := Lib.hid hcn
      have HOK := Lib.hid hok
      clear hcn hok
      rw [hm, hg]
      clear hm hg
      by_cases hj5 : j < 4000
      · have hj9 : (j : Int) + 1 ≤ 4000 := by omega
        go_wp2_with fail
        refine (tstate_any f (synE x s) _ HC.out).mono ?_
        rintro e wq ⟨rfl, rfl⟩
        rw [show (synE x s).st = 0 from rfl]
        go_wp2_with fail
        refine (tsend_any f (synE x s) 5000 [120] _ HC.out HOK.out (by unfold In64; omega) (by show (1 : Int) + 0 + 1 ≤ 1073741824; decide)).mono ?_
        rintro e w8 ⟨v8, rfl, ho8, hc8, hch8⟩
        have HC8 := Lib.hid (show CnAt f (synE x s) w8 from hc8)
        have HCH8 := Lib.hid (HCH.out.trans hch8)
        clear ho8 hc8 hch8
        rw [show sendVals ((synE x s).sentN [120]) (synE x s).refusal v8 = .tuple #[.int .i64 0, v8, .int .i64 182] from rfl]
        go_wp2_with fail
        refine (tstate_any f (synE x s) _ HC8.out).mono ?_
        rintro e wq ⟨rfl, rfl⟩
        rw [show (synE x s).st = 0 from rfl]
        go_wp2_with fail
        refine (terr_any f (synE x s) _ HC8.out).mono ?_
        rintro e wq ⟨rfl, rfl⟩
        rw [show (synE x s).err = 182 from rfl]
        go_wp2_with fail
        go_ret
        exact ⟨rfl, HB.out.trans (HCH8.out.hi HB.out.size HI.out)⟩
      · have hj9 : ¬ (j : Int) + 1 ≤ 4000 := by omega
        go_wp2_with fail
        refine (tsend_any f (synE x s) 5000 [120] _ HC.out HOK.out (by unfold In64; omega) (by show (1 : Int) + 0 + 1 ≤ 1073741824; decide)).mono ?_
        rintro e w8 ⟨v8, rfl, ho8, hc8, hch8⟩
        have HC8 := Lib.hid (show CnAt f (synE x s) w8 from hc8)
        have HCH8 := Lib.hid (HCH.out.trans hch8)
        clear ho8 hc8 hch8
        rw [show sendVals ((synE x s).sentN [120]) (synE x s).refusal v8 = .tuple #[.int .i64 0, v8, .int .i64 182] from rfl]
        go_wp2_with fail
        refine (tstate_any f (synE x s) _ HC8.out).mono ?_
        rintro e wq ⟨rfl, rfl⟩
        rw [show (synE x s).st = 0 from rfl]
        go_wp2_with fail
        refine (terr_any f (synE x s) _ HC8.out).mono ?_
        rintro e wq ⟨rfl, rfl⟩
        rw [show (synE x s).err = 182 from rfl]
        go_wp2_with fail
        go_ret
        exact ⟨rfl, HB.out.trans (HCH8.out.hi HB.out.size HI.out)⟩
end Go.Proofs.YtclkcmidhhfdmaaGreatDoor
