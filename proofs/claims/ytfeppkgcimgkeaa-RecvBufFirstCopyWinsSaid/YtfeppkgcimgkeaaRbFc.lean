/- RecvBufFirstCopyWins: the law's walk. -/
import Derived.Test.YtfeppkgcimgkeaaRbSane
import Derived.Test.YtfeppkgcimgkeaaRbFcP
import Derived.OpenShut
namespace Go.Proofs.Ytfeppkgcimgkeaa
open Go.RowKit Go.Shelf
theorem extract_list (g c : ByteArray) (k : Nat) (h1 : (g.data.toList.drop k).take c.size = c.data.toList) : g.extract k (k + c.size) = c := by
  apply ByteArray.ext
  apply Array.toList_inj.1
  rw [← h1, ByteArray.data_extract, Array.toList_extract, List.extract_eq_take_drop, Nat.add_sub_cancel_left]
set_option maxRecDepth 100000 in
set_option maxHeartbeats 2000000 in
theorem walk_RecvBufFirstCopyWins (w : World) (s : ByteArray) (hs0 : s.size ≤ maxLen) (t : ByteArray) (ht0 : t.size ≤ maxLen) (off : Int) (hoff0 : (Lit.int .i64 off).wf = true) (at_ : Int) (hat0 : (Lit.int .i64 at_).wf = true) :
    Calls Try.prog 6 #[.string s, .string t, .int .i64 off, .int .i64 at_] w fun e w' => e = .returned (.bool true) ∧ Below w.heap.size w w' := by
  have bo := bounds_i64 hoff0
  have ba := bounds_i64 hat0
  clear hoff0 hat0
  unfold maxLen at hs0 ht0
  obtain ⟨i0, hi, hz0, hz1, hz2⟩ := info_parts byteInfo
  obtain ⟨k, hk⟩ : ∃ k, k = pickV off 30 := ⟨_, rfl⟩
  have kb := pickV_bd off 30 (by omega)
  rw [← hk] at kb
  obtain ⟨k1, k2⟩ := kb
  have HK := Lib.hid (show ∀ W, Calls Try.prog 20 #[.int .i64 off, .int .i64 30] W fun r w' => r = .returned (.int .i64 k) ∧ W = w' from fun W => by rw [hk]; exact pick_any off 30 W bo.1 bo.2 (by omega) (by omega))
  clear hk
  obtain ⟨a, ha⟩ : ∃ a, a = pickV at_ 40 := ⟨_, rfl⟩
  have ab := pickV_bd at_ 40 (by omega)
  rw [← ha] at ab
  obtain ⟨a1, a2⟩ := ab
  have HA := Lib.hid (show ∀ W, Calls Try.prog 20 #[.int .i64 at_, .int .i64 40] W fun r w' => r = .returned (.int .i64 a) ∧ W = w' from fun W => by rw [ha]; exact pick_any at_ 40 W ba.1 ba.2 (by omega) (by omega))
  clear ha
  obtain ⟨K, rfl⟩ := Int.eq_ofNat_of_zero_le k1
  obtain ⟨c, hc⟩ : ∃ c : ByteArray, c = s.extract 0 (min (s.size : Int) 30).toNat := ⟨_, rfl⟩
  obtain ⟨d, hd⟩ : ∃ d : ByteArray, d = t.extract 0 (min (t.size : Int) 60).toNat := ⟨_, rfl⟩
  have hcl : c.size ≤ 30 := by rw [hc, ByteArray.size_extract]; omega
  have hdl : d.size ≤ 60 := by rw [hd, ByteArray.size_extract]; omega
  have HC := Lib.hid hc
  have HD := Lib.hid hd
  have b1 : 0 ≤ min (s.size : Int) 30 := by omega
  have b2 : min (s.size : Int) 30 ≤ (s.size : Int) := by omega
  have b3 : 0 ≤ min (t.size : Int) 60 := by omega
  have b4 : min (t.size : Int) 60 ≤ (t.size : Int) := by omega
  have hcs : c.data.toList.length = c.size := by rw [Array.length_toList]; rfl
  have HCS := Lib.hid hcs
  have HM := Lib.hid (fc1_n (K : Int) a c.data.toList d.size k1 k2 (by omega) a1 a2 hdl)
  have HT := Lib.hid (fc3_take (K : Int) a c.data.toList d.data.toList k1 k2 (by omega) a1 a2)
  have HN := Lib.hid (fc0_n (K : Int) c.size k1 k2 hcl)
  have HE := Lib.hid (show putE (K : Int) = 0 ∧ putE a = 0 from ⟨by unfold putE; rw [if_neg (by omega)], by unfold putE; rw [if_neg (by omega)]⟩)
  clear hc hd hcs bo ba
  go_enter Try.func6, Try.ntmps6
  go_wp2_with fail
  refine (sanity_any _).mono ?_
  rintro e v0 ⟨rfl, hb0⟩
  have HB := Lib.hid hb0
  clear hb0
  go_wp2_with fail
  rw [← HC.out, ← HD.out]
  refine (new_box 64 (by omega) (by omega) _).mono ?_
  rintro e v1 ⟨B, R, rfl, hbox, hb, hB, hR⟩
  have hsB := HB.out.size
  obtain ⟨lb, hlb⟩ : ∃ lb, lb = v1.heap.size := ⟨_, rfl⟩
  have hl1 : lb ≤ v1.heap.size := by omega
  have HX := Lib.hid (hbox lb)
  replace HB := Lib.hid (HB.out.trans (hb.mono HB.out.size))
  replace hB : w.heap.size ≤ B := by omega
  replace hR : w.heap.size ≤ R := by omega
  clear hbox hb hlb hsB
  go_wp2_with fail
  refine (HK.out _).mono ?_
  rintro e w9 ⟨rfl, rfl⟩
  go_wp2_with fail
  refine (put_any B R lb (bx0 64) (K : Int) c _ HX.out fc0_ok hl1 (by omega)).mono ?_
  rintro e v2 ⟨rfl, hx, hc⟩
  rw [HN.out, HE.out.1]
  replace HB := Lib.hid (HB.out.trans (hc.below hB hR HB.out.size))
  replace hl1 := Nat.le_trans hl1 hc.size
  replace HX := Lib.hid (show BoxAt B R lb (fc1 (K : Int) c.data.toList) v2 from hx)
  clear hx hc
  go_wp2_with fail
  refine (HA.out _).mono ?_
  rintro e w9 ⟨rfl, rfl⟩
  go_wp2_with fail
  by_cases hk : 0 < K
  · have hkp : (0 : Int) < (K : Int) := by omega
    refine (put_any B R lb (fc1 (K : Int) c.data.toList) a d _ HX.out (fc1_ok _ _ k1 k2) hl1 (by omega)).mono ?_
    rintro e v11 ⟨rfl, hx, hc⟩
    rw [HM.out, HE.out.2, HCS.out]
    replace HB := Lib.hid (HB.out.trans (hc.below hB hR HB.out.size))
    replace hl1 := Nat.le_trans hl1 hc.size
    replace HX := Lib.hid (show BoxAt B R lb (fc2 (K : Int) a c.data.toList d.data.toList) v11 from hx)
    clear hx hc
    have e3 := Lib.hid (show (fc2 (K : Int) a c.data.toList d.data.toList).put 0 (List.replicate K 0) = (fc3 (K : Int) a c.data.toList d.data.toList) by unfold fc3; rw [if_pos (by omega), Int.toNat_natCast])
    go_wp2_with (first | (at_make; refine wpList_make_full _ rfl _ _ _ rfl v11.heap.size 5 i0 _ 1 Try.underlying22 hi hz0 hz1 _ _ _ _ K rfl rfl rfl rfl (by rw [hz2]; omega) (by unfold maxLen; omega) (Nat.le_refl _) ?_))
    intro u1 hown hgr
    have hR2 : RingAt v11.heap.size (List.replicate K 0) u1 := by
      refine ring_of_own (base := v11.heap.size) (n := K) (cap := K) ?_ rfl
      have e : (madeCells #[Value.int .u8 0] K).toList = Lib.byteCells (List.replicate K 0) := by
        apply List.ext_getElem
        · simp [madeCells, Lib.byteCells]
        · intro i h1 h2
          simp [madeCells, Lib.byteCells, Nat.mod_one]
      rw [← e]
      exact hown
    have hb : Below v11.heap.size v11 u1 := grown_below hgr (Nat.le_refl _) (fun k e => by cases e)
    replace HB := Lib.hid (HB.out.trans (hb.mono HB.out.size))
    replace HX := Lib.hid (HX.out.below hb)
    replace hl1 := Nat.le_trans hl1 hb.size
    have hcv := ring_conv hR2 K K (by simp)
    obtain ⟨zb, hzb⟩ : ∃ zb : ByteArray, zb = ⟨(List.replicate K 0).toArray⟩ := ⟨_, rfl⟩
    rw [← hzb] at hcv
    have hzs : zb.size = K := by rw [hzb]; show (List.replicate K 0).toArray.size = K; simp
    have HZ := Lib.hid (show zb.data.toList = List.replicate K 0 by rw [hzb])
    have hzl : zb.size ≤ 30 := by omega
    clear hzb hzs hown hgr hR2 hb
    go_wp2_with fail
    refine (put_any B R lb (fc2 (K : Int) a c.data.toList d.data.toList) 0 zb _ HX.out (fc2_ok _ _ _ _ k1 k2 a1 a2) hl1 (by omega)).mono ?_
    rintro e v12 ⟨rfl, hx, hc⟩
    rw [HZ.out, e3.out] at hx
    replace HB := Lib.hid (HB.out.trans (hc.below hB hR HB.out.size))
    replace hl1 := Nat.le_trans hl1 hc.size
    replace HX := Lib.hid (show BoxAt B R lb (fc3 (K : Int) a c.data.toList d.data.toList) v12 from hx)
    clear hx hc
    go_wp2_with fail
    obtain ⟨gg, hgg⟩ : ∃ gg : ByteArray, gg = ⟨((fc3 (K : Int) a c.data.toList d.data.toList).takeS 100).toArray⟩ := ⟨_, rfl⟩
    have hgl : (K : Int) + (c.size : Int) ≤ (gg.size : Int) := by
      have := HT.out.1
      rw [HCS.out] at this
      have e : gg.size = ((fc3 (K : Int) a c.data.toList d.data.toList).takeS 100).length := by rw [hgg]; show ((fc3 (K : Int) a c.data.toList d.data.toList).takeS 100).toArray.size = _; simp
      omega
    have hge : gg.extract K (K + c.size) = c := by
      apply extract_list
      have := HT.out.2
      rw [HCS.out, Int.toNat_natCast] at this
      rw [hgg]
      exact this
    have HGE := Lib.hid hge
    clear hge
    refine (take_any B R lb (fc3 (K : Int) a c.data.toList d.data.toList) 100 _ HX.out (fc3_ok _ _ _ _ k1 k2 a1 a2)).mono ?_
    rintro e v13 ⟨rfl, hx, hc⟩
    rw [← hgg]
    clear hgg
    replace HB := Lib.hid (HB.out.trans ((Chg2.of1 hc).below hB hR HB.out.size))
    replace hl1 := Nat.le_trans hl1 hc.size
    replace HX := Lib.hid (show BoxAt B R lb ((fc3 (K : Int) a c.data.toList d.data.toList).take 100) v13 from hx)
    clear hx hc
    go_wp2_with fail
    refine (HA.out _).mono ?_
    rintro e w9 ⟨rfl, rfl⟩
    go_wp2_with fail
    refine (HA.out _).mono ?_
    rintro e w9 ⟨rfl, rfl⟩
    have hge := HGE.out
    go_wp2_with fail
    refine (HA.out _).mono ?_
    rintro e w9 ⟨rfl, rfl⟩
    go_wp2_with fail
    go_ret
    exact ⟨rfl, HB.out⟩
  · have hkz : ¬ (0 : Int) < (K : Int) := by omega
    refine (put_any B R lb (fc1 (K : Int) c.data.toList) a d _ HX.out (fc1_ok _ _ k1 k2) hl1 (by omega)).mono ?_
    rintro e v11 ⟨rfl, hx, hc⟩
    rw [HM.out, HE.out.2, HCS.out]
    replace HB := Lib.hid (HB.out.trans (hc.below hB hR HB.out.size))
    replace hl1 := Nat.le_trans hl1 hc.size
    replace HX := Lib.hid (show BoxAt B R lb (fc2 (K : Int) a c.data.toList d.data.toList) v11 from hx)
    clear hx hc
    have e3 := Lib.hid (show fc2 (K : Int) a c.data.toList d.data.toList = (fc3 (K : Int) a c.data.toList d.data.toList) by unfold fc3; rw [if_neg (by omega)])
    replace HX := Lib.hid (e3.out ▸ HX.out)
    go_wp2_with fail
    obtain ⟨gg, hgg⟩ : ∃ gg : ByteArray, gg = ⟨((fc3 (K : Int) a c.data.toList d.data.toList).takeS 100).toArray⟩ := ⟨_, rfl⟩
    have hgl : (K : Int) + (c.size : Int) ≤ (gg.size : Int) := by
      have := HT.out.1
      rw [HCS.out] at this
      have e : gg.size = ((fc3 (K : Int) a c.data.toList d.data.toList).takeS 100).length := by rw [hgg]; show ((fc3 (K : Int) a c.data.toList d.data.toList).takeS 100).toArray.size = _; simp
      omega
    have hge : gg.extract K (K + c.size) = c := by
      apply extract_list
      have := HT.out.2
      rw [HCS.out, Int.toNat_natCast] at this
      rw [hgg]
      exact this
    have HGE := Lib.hid hge
    clear hge
    refine (take_any B R lb (fc3 (K : Int) a c.data.toList d.data.toList) 100 _ HX.out (fc3_ok _ _ _ _ k1 k2 a1 a2)).mono ?_
    rintro e v12 ⟨rfl, hx, hc⟩
    rw [← hgg]
    clear hgg
    replace HB := Lib.hid (HB.out.trans ((Chg2.of1 hc).below hB hR HB.out.size))
    replace hl1 := Nat.le_trans hl1 hc.size
    replace HX := Lib.hid (show BoxAt B R lb ((fc3 (K : Int) a c.data.toList d.data.toList).take 100) v12 from hx)
    clear hx hc
    go_wp2_with fail
    refine (HA.out _).mono ?_
    rintro e w9 ⟨rfl, rfl⟩
    go_wp2_with fail
    refine (HA.out _).mono ?_
    rintro e w9 ⟨rfl, rfl⟩
    have hge := HGE.out
    go_wp2_with fail
    refine (HA.out _).mono ?_
    rintro e w9 ⟨rfl, rfl⟩
    go_wp2_with fail
    go_ret
    exact ⟨rfl, HB.out⟩
end Go.Proofs.Ytfeppkgcimgkeaa
