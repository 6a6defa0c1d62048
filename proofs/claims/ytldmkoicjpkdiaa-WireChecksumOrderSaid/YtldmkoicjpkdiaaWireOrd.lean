/- WireChecksumOrder: its walk. -/
import Derived.Test.YtldmkoicjpkdiaaWireZero
import Derived.Test.YtldmkoicjpkdiaaWireOrdPlain
import Derived.Test.YtldmkoicjpkdiaaWireBytes
import Derived.RegionTactic
namespace Go.Proofs.Ytldmkoicjpkdiaa
open Go.RowKit
theorem cellAfter {w : World} {p q : Addr} {x v : Value} (h : w.cell? q = some v) : ∃ v', (w.setCell p x).cell? q = some v' := by
  by_cases e : p = q
  · subst e; exact ⟨x, World.cell?_setCell_same w p x h⟩
  · exact ⟨v, (World.cell?_setCell_other w p q x e).trans h⟩
theorem ext_take (T : ByteArray) (i : Nat) : (T.extract 0 i).data.toList = T.data.toList.take i := by
  simp
theorem ext_drop (T : ByteArray) (i : Nat) (h : i ≤ T.size) : (T.extract i T.size).data.toList = T.data.toList.drop i := by
  have := ext_toList T i (T.size - i)
  rw [show i + (T.size - i) = T.size by omega] at this
  rw [this, List.take_of_length_le (by rw [List.length_drop, size_toList]; omega)]
set_option maxRecDepth 100000 in
set_option maxHeartbeats 8000000 in
theorem walk_WireChecksumOrder (w : World) (s : ByteArray) (hs : s.size ≤ maxLen) (a : Int) (wa : (Lit.int .i64 a).wf = true) (b : Int) (wb : (Lit.int .i64 b).wf = true) (z : Int) (wz : (Lit.int .i64 z).wf = true) :
    Calls Try.prog 6 #[.string s, .int .i64 a, .int .i64 b, .int .i64 z] w fun r w' => r = .returned (.bool true) ∧ Below w.heap.size w w' := by
  obtain ⟨ha1, ha2⟩ := bounds_i64 wa
  obtain ⟨hb1, hb2⟩ := bounds_i64 wb
  obtain ⟨hz1, hz2⟩ := bounds_i64 wz
  unfold maxLen at hs
  clear wa wb wz
  go_enter Try.func6, Try.ntmps6
  go_wp2_with fail
  refine (sanity_any _).mono ?_
  rintro r w0 ⟨rfl, hB0⟩
  by_cases h4 : 400 < s.size
  · have hT : (s.extract 0 400).size = 400 := by simp [ByteArray.size_extract]; omega
    have hT0 : 0 < (s.extract 0 400).size := by omega
    have hT4 : (s.extract 0 400).size ≤ 400 := by omega
    have hTE : (s.extract 0 400).size % 2 = 0 := by omega
    clear hT
    obtain ⟨T, hTT⟩ : ∃ T, s.extract 0 400 = T := ⟨_, rfl⟩
    rw [hTT] at hT0 hT4 hTE
    have ht0 : ((T.size : Int) == 0) = false := beq_eq_false_iff_ne.2 (by omega)
    go_wp2_with fail
    refine (pick_any a ((T.size : Int) / 2) _ ha1 ha2 (by omega) (by omega)).mono ?_
    rintro r w1 ⟨rfl, rfl⟩
    obtain ⟨p1, p2⟩ := pickV_bd a ((T.size : Int) / 2) (by omega)
    generalize pickV a ((T.size : Int) / 2) = p at p1 p2 ⊢
    obtain ⟨p, rfl⟩ := Int.eq_ofNat_of_zero_le p1
    go_wp2_with fail
    refine (pick_any b ((T.size : Int) / 2) _ hb1 hb2 (by omega) (by omega)).mono ?_
    rintro r w1 ⟨rfl, rfl⟩
    obtain ⟨q1, q2⟩ := pickV_bd b ((T.size : Int) / 2) (by omega)
    generalize pickV b ((T.size : Int) / 2) = q at q1 q2 ⊢
    obtain ⟨q, rfl⟩ := Int.eq_ofNat_of_zero_le q1
    have hcv := fun W => run_bytes_of_string (P := Try.prog) W 9 34 5 T Try.underlying9 Try.underlying34 Try.underlying5
    go_wp2_with fail
    clear hcv ha1 ha2 hb1 hb2 p1 q1 hTT h4
    generalize grownCap w0 T.size 0 5 = cap
    have hBy := (Bytes.new w0 T cap 5).drew
    have hBl := (hB0.alloc hB0.size (.cells (bytesRow T cap) 5 ((bytesRow T cap).size, (bytesRow T cap).size + 1))).drew
    have hBz : w0.heap.size < (w0.alloc (.cells (bytesRow T cap) 5 ((bytesRow T cap).size, (bytesRow T cap).size + 1))).drew.heap.size := by show w0.heap.size < (w0.alloc _).heap.size; simp
    generalize (w0.alloc (.cells (bytesRow T cap) 5 ((bytesRow T cap).size, (bytesRow T cap).size + 1))).drew = W1 at hBy hBl hBz ⊢
    have hwB : w.heap.size ≤ w0.heap.size := hB0.size
    generalize w0.heap.size = B at hBy hBz hwB ⊢
    clear hB0
    have hlen : T.data.toList.length = T.size := size_toList T
    have HL := Lib.hid hlen
    obtain ⟨ci1, fi1⟩ := hBy (2 * p) (by omega)
    obtain ⟨ck1, fk1⟩ := hBy (2 * q) (by omega)
    have hSw := hBy.swap (2 * p) (2 * q) (by omega) (by omega)
    have hBl2 := (hBl.setCell (p := ⟨B, 2 * p, none⟩) hwB (.int .u8 ((T.data.toList.getD (2 * q) 0).toNat : Int))).setCell (p := ⟨B, 2 * q, none⟩) hwB (.int .u8 ((T.data.toList.getD (2 * p) 0).toNat : Int))
    have hBz2 : B < ((W1.setCell ⟨B, 2 * p, none⟩ (.int .u8 ((T.data.toList.getD (2 * q) 0).toNat : Int))).setCell ⟨B, 2 * q, none⟩ (.int .u8 ((T.data.toList.getD (2 * p) 0).toNat : Int))).heap.size := by simp [World.setCell]; omega
    clear hBy hlen hBl hBz
    generalize T.data.toList.getD (2 * p) 0 = x at ci1 hSw hBl2 hBz2
    generalize T.data.toList.getD (2 * q) 0 = y at ck1 hSw hBl2 hBz2
    have HSw := Lib.hid hSw
    have HBl := Lib.hid hBl2
    have HBz := Lib.hid hBz2
    clear hSw hBl2 hBz2
    have e1 : (2 * (p : Int)) < (T.size : Int) := by omega
    have e2 : (2 * (q : Int)) < (T.size : Int) := by omega
    have e3 : 0 ≤ 2 * (p : Int) := by omega
    have e4 : 0 ≤ 2 * (q : Int) := by omega
    obtain ⟨v, hv⟩ : ∃ v, (W1.setCell ⟨B, 2 * p, none⟩ (.int .u8 (y.toNat : Int))).cell? ⟨B, 2 * q, none⟩ = some v := cellAfter ck1
    have hv2 : (W1.setCell ⟨B, 2 * p, none⟩ (.int .u8 (y.toNat : Int))).frozen? ⟨B, 2 * q, none⟩ = false := by rw [World.frozen?_setCell]; exact fk1
    have e5 : (2 * (p : Int)).toNat = 2 * p := by omega
    have e6 : (2 * (q : Int)).toNat = 2 * q := by omega
    go_region
    clear ci1 ck1 fi1 fk1 hv hv2 e1 e2 e3 e4 e5 e6
    have hBy := HSw.out.drew
    have hBl := HBl.out.drew
    have hBz : B < (((W1.setCell ⟨B, 2 * p, none⟩ (.int .u8 (y.toNat : Int))).setCell ⟨B, 2 * q, none⟩ (.int .u8 (x.toNat : Int))).drew).heap.size := HBz.out
    clear HSw HBl HBz
    generalize ((W1.setCell ⟨B, 2 * p, none⟩ (.int .u8 (y.toNat : Int))).setCell ⟨B, 2 * q, none⟩ (.int .u8 (x.toNat : Int))).drew = W2 at hBy hBl hBz ⊢
    have hlen : (swap T.data.toList (2 * p) (2 * q)).length = T.size := by rw [swap_length]; exact HL.out
    have hck := ck_swap T.data.toList (2 * p) (2 * q) (by rw [HL.out]; omega) (by rw [HL.out]; omega) (by omega)
    have HCK := Lib.hid hck
    clear hck
    generalize swap T.data.toList (2 * p) (2 * q) = L at hBy hlen HCK
    obtain ⟨ci1, fi1⟩ := hBy (2 * p + 1) (by omega)
    obtain ⟨ck1, fk1⟩ := hBy (2 * q + 1) (by omega)
    have hSw := hBy.swap (2 * p + 1) (2 * q + 1) (by omega) (by omega)
    have hBl2 := (hBl.setCell (p := ⟨B, 2 * p + 1, none⟩) hwB (.int .u8 ((L.getD (2 * q + 1) 0).toNat : Int))).setCell (p := ⟨B, 2 * q + 1, none⟩) hwB (.int .u8 ((L.getD (2 * p + 1) 0).toNat : Int))
    have hBz2 : B < ((W2.setCell ⟨B, 2 * p + 1, none⟩ (.int .u8 ((L.getD (2 * q + 1) 0).toNat : Int))).setCell ⟨B, 2 * q + 1, none⟩ (.int .u8 ((L.getD (2 * p + 1) 0).toNat : Int))).heap.size := by simp [World.setCell]; omega
    have hlen2 : (swap L (2 * p + 1) (2 * q + 1)).length = T.size := by rw [swap_length]; exact hlen
    have HL2 := Lib.hid hlen2
    clear hBy hlen hBl hBz hlen2
    generalize L.getD (2 * p + 1) 0 = x2 at ci1 hSw hBl2 hBz2
    generalize L.getD (2 * q + 1) 0 = y2 at ck1 hSw hBl2 hBz2
    have HSw := Lib.hid hSw
    have HBl := Lib.hid hBl2
    have HBz := Lib.hid hBz2
    clear hSw hBl2 hBz2
    obtain ⟨v2, hv⟩ : ∃ v, (W2.setCell ⟨B, 2 * p + 1, none⟩ (.int .u8 (y2.toNat : Int))).cell? ⟨B, 2 * q + 1, none⟩ = some v := cellAfter ck1
    have hv2 : (W2.setCell ⟨B, 2 * p + 1, none⟩ (.int .u8 (y2.toNat : Int))).frozen? ⟨B, 2 * q + 1, none⟩ = false := by rw [World.frozen?_setCell]; exact fk1
    go_wp2_with fail
    have e1 : (2 * (p : Int)) + 1 < (T.size : Int) := by omega
    have e2 : (2 * (q : Int)) + 1 < (T.size : Int) := by omega
    have e3 : 0 ≤ 2 * (p : Int) + 1 := by omega
    have e4 : 0 ≤ 2 * (q : Int) + 1 := by omega
    have e5 : (2 * (p : Int) + 1).toNat = 2 * p + 1 := by omega
    have e6 : (2 * (q : Int) + 1).toNat = 2 * q + 1 := by omega
    have e7 : IntKind.i64.wrap (2 * (p : Int) + 1) = 2 * (p : Int) + 1 := IntWalk.i64_in _ (by omega)
    have e8 : IntKind.i64.wrap (2 * (q : Int) + 1) = 2 * (q : Int) + 1 := IntWalk.i64_in _ (by omega)
    go_region
    clear ci1 ck1 fi1 fk1 hv hv2 e1 e2 e3 e4 e5 e6 e7 e8
    have hBy := HSw.out.drew
    have hBl := HBl.out.drew
    have hBz : B < (((W2.setCell ⟨B, 2 * p + 1, none⟩ (.int .u8 (y2.toNat : Int))).setCell ⟨B, 2 * q + 1, none⟩ (.int .u8 (x2.toNat : Int))).drew).heap.size := HBz.out
    clear HSw HBl HBz
    generalize ((W2.setCell ⟨B, 2 * p + 1, none⟩ (.int .u8 (y2.toNat : Int))).setCell ⟨B, 2 * q + 1, none⟩ (.int .u8 (x2.toNat : Int))).drew = W3 at hBy hBl hBz ⊢
    generalize swap L (2 * p + 1) (2 * q + 1) = L2 at hBy HL2 HCK
    have HBy := Lib.hid hBy
    clear hBy
    go_wp2_with fail
    refine (pick_any z 9 _ hz1 hz2 (by omega) (by omega)).mono ?_
    rintro r w3 ⟨rfl, rfl⟩
    obtain ⟨z1, z2⟩ := pickV_bd z 9 (by omega)
    generalize pickV z 9 = m at z1 z2 ⊢
    obtain ⟨m, rfl⟩ := Int.eq_ofNat_of_zero_le z1
    have hmk := mkz m (by omega)
    have hcv := fun W => cvz W m
    clear z1 hz1 hz2
    have hZs : (zeroB m).size ≤ 8 := by simp [zeroB, ByteArray.size]; omega
    have hZr : Reads (zeroB m) (List.replicate m 0) := by simp [Reads, zeroB]
    have hB4 := hBl.alloc hBl.size (.cells (byteVals (List.replicate m 0)) 5)
    have hBy4 := HBy.out.below hBz ((Below.refl _ _).alloc (Nat.le_refl _) (.cells (byteVals (List.replicate m 0)) 5))
    have hBz4 : B < (W3.alloc (.cells (byteVals (List.replicate m 0)) 5)).heap.size := by simp; omega
    have HB4 := Lib.hid hB4
    have HBy4 := Lib.hid hBy4
    have HBz4 := Lib.hid hBz4
    clear HBy hBl hBz hB4 hBy4 hBz4 z2
    generalize hZ : zeroB m = Z at hZs hZr hcv
    clear hZ
    go_wp2_with fail
    clear hmk hcv
    have hBl := HB4.out
    have HBy := HBy4
    have hBz := HBz4.out
    clear HB4 HBz4
    generalize W3.alloc (.cells (byteVals (List.replicate m 0)) 5) = W4 at hBl HBy hBz ⊢
    refine (checksum_any (T.extract 0 (2 * p)) (by simp [ByteArray.size_extract]; omega) _).mono ?_
    rintro r w4 ⟨rfl, b4⟩
    rw [ext_take]
    have hc1 : cksum (T.data.toList.take (2 * p)) ≤ 65535 := cksum_le _
    have hspl := ck_split T.data.toList (2 * p) (by omega) (by rw [HL.out]; omega)
    generalize cksum (T.data.toList.take (2 * p)) = c1 at hc1 hspl ⊢
    have HSP := Lib.hid hspl
    clear hspl
    have hBl4 := hBl.trans (b4.mono hBl.size)
    have hBy4 := HBy.out.below hBz b4
    have hBz4 := Nat.lt_of_lt_of_le hBz b4.size
    clear hBl HBy hBz b4
    have HBy := Lib.hid hBy4
    clear hBy4
    go_wp2_with fail
    have e1 : (65535 : Int) - (c1 : Int) = ((65535 - c1 : Nat) : Int) := by omega
    rw [e1]
    clear e1
    have HF1 := ck_le_fits (65535 - c1) (by omega)
    obtain ⟨U, hU⟩ : ∃ U : ByteArray, U = ⟨(be 2 (65535 - c1)).toArray⟩ := ⟨_, rfl⟩
    have hUl : Reads U (be 2 (65535 - c1)) := by unfold Reads; rw [hU]
    have hUs : U.size ≤ 2 := by rw [hUl.size, be_length]; exact Nat.le_refl _
    refine (put2_any (65535 - c1) (hpowl2 _ HF1) _).mono ?_
    rintro r w5 ⟨rfl, b5⟩
    rw [← hU]
    clear hU
    have hBl5 := hBl4.trans (b5.mono hBl4.size)
    have hBy5 := HBy.out.below hBz4 b5
    have hBz5 := Nat.lt_of_lt_of_le hBz4 b5.size
    clear hBl4 HBy hBz4 b5
    have HBy := Lib.hid hBy5
    clear hBy5
    go_wp2_with fail
    refine (checksum_any (T.extract (2 * p) T.size) (by simp [ByteArray.size_extract]; omega) _).mono ?_
    rintro r w6 ⟨rfl, b6⟩
    rw [ext_drop T (2 * p) (by omega)]
    have hc2 : cksum (T.data.toList.drop (2 * p)) ≤ 65535 := cksum_le _
    generalize cksum (T.data.toList.drop (2 * p)) = c2 at hc2 HSP ⊢
    have hBl6 := hBl5.trans (b6.mono hBl5.size)
    have hBy6 := HBy.out.below hBz5 b6
    have hBz6 := Nat.lt_of_lt_of_le hBz5 b6.size
    clear hBl5 HBy hBz5 b6
    have HBy := Lib.hid hBy6
    clear hBy6
    go_wp2_with fail
    have e1 : (65535 : Int) - (c2 : Int) = ((65535 - c2 : Nat) : Int) := by omega
    rw [e1]
    clear e1
    have HF2 := ck_le_fits (65535 - c2) (by omega)
    obtain ⟨V, hV⟩ : ∃ V : ByteArray, V = ⟨(be 2 (65535 - c2)).toArray⟩ := ⟨_, rfl⟩
    have hVl : Reads V (be 2 (65535 - c2)) := by unfold Reads; rw [hV]
    have hVs : V.size ≤ 2 := by rw [hVl.size, be_length]; exact Nat.le_refl _
    refine (put2_any (65535 - c2) (hpowl2 _ HF2) _).mono ?_
    rintro r w7 ⟨rfl, b7⟩
    rw [← hV]
    clear hV
    have hBl7 := hBl6.trans (b7.mono hBl6.size)
    have hBy7 := HBy.out.below hBz6 b7
    have hBz7 := Nat.lt_of_lt_of_le hBz6 b7.size
    clear hBl6 HBy hBz6 b7
    have hcv := hBy7.conv cap T.size HL2.out
    obtain ⟨LS, hLS⟩ : ∃ LS : ByteArray, (⟨L2.toArray⟩ : ByteArray) = LS := ⟨_, rfl⟩
    rw [hLS] at hcv
    have hLr : LS.data.toList = L2 := by rw [← hLS]
    have hLz : LS.size ≤ 400 := by rw [← size_toList, hLr, HL2.out]; exact hT4
    have HLr := Lib.hid hLr
    clear hLS hLr hBy7
    go_wp2_with fail
    refine (checksum_any LS (by omega) _).mono ?_
    rintro r w8 ⟨rfl, b8⟩
    rw [HLr.out, HCK.out]
    clear hcv
    go_wp2_with fail
    refine (checksum_any T (by omega) _).mono ?_
    rintro r w9 ⟨rfl, b9⟩
    go_wp2_with fail
    refine (checksum_any (T ++ Z) (by rw [ByteArray.size_append]; omega) _).mono ?_
    rintro r w10 ⟨rfl, b10⟩
    rw [ck_cat hZr, ck_zeros _ (by rw [HL.out]; exact hTE)]
    go_wp2_with fail
    refine (checksum_any T (by omega) _).mono ?_
    rintro r w11 ⟨rfl, b11⟩
    go_wp2_with fail
    refine (checksum_any (U ++ V) (by rw [ByteArray.size_append]; omega) _).mono ?_
    rintro r w12 ⟨rfl, b12⟩
    rw [ck_cat hVl, show U.data.toList = be 2 (65535 - c1) from hUl, HSP.out]
    go_wp2_with fail
    refine (checksum_any T (by omega) _).mono ?_
    rintro r w13 ⟨rfl, b13⟩
    generalize cksum T.data.toList = ck
    have hB13 := hBl7.trans ((below_tr b8 (below_tr b9 (below_tr b10 (below_tr b11 (below_tr b12 b13))))).mono hBl7.size)
    clear hBl7 b8 b9 b10 b11 b12 b13
    go_wp2_with fail
    go_ret
    exact ⟨rfl, hB13⟩
  · by_cases h2 : s.size < 2
    · have hE0 : s.extract 0 (s.size / 2 * 2) = ⟨#[]⟩ := by
        have : (s.extract 0 (s.size / 2 * 2)).size = 0 := by simp [ByteArray.size_extract]; omega
        exact ByteArray.ext (Array.eq_empty_of_size_eq_zero this)
      go_wp2_with fail
      refine (checksum_any ⟨#[]⟩ (by decide) _).mono ?_
      rintro r w1 ⟨rfl, b1⟩
      rw [show cksum ({ data := #[] } : ByteArray).data.toList = 65535 by kernel_rfl]
      have hB1 := below_tr hB0 b1
      go_wp2_with fail
      go_ret
      exact ⟨rfl, hB1⟩
    · have hT : (s.extract 0 (s.size / 2 * 2)).size = s.size / 2 * 2 := by simp [ByteArray.size_extract]; omega
      have hT0 : 0 < (s.extract 0 (s.size / 2 * 2)).size := by omega
      have hT4 : (s.extract 0 (s.size / 2 * 2)).size ≤ 400 := by omega
      have hTE : (s.extract 0 (s.size / 2 * 2)).size % 2 = 0 := by omega
      clear hT
      obtain ⟨T, hTT⟩ : ∃ T, s.extract 0 (s.size / 2 * 2) = T := ⟨_, rfl⟩
      rw [hTT] at hT0 hT4 hTE
      have ht0 : ((T.size : Int) == 0) = false := beq_eq_false_iff_ne.2 (by omega)
      go_wp2_with fail
      refine (pick_any a ((T.size : Int) / 2) _ ha1 ha2 (by omega) (by omega)).mono ?_
      rintro r w1 ⟨rfl, rfl⟩
      obtain ⟨p1, p2⟩ := pickV_bd a ((T.size : Int) / 2) (by omega)
      generalize pickV a ((T.size : Int) / 2) = p at p1 p2 ⊢
      obtain ⟨p, rfl⟩ := Int.eq_ofNat_of_zero_le p1
      go_wp2_with fail
      refine (pick_any b ((T.size : Int) / 2) _ hb1 hb2 (by omega) (by omega)).mono ?_
      rintro r w1 ⟨rfl, rfl⟩
      obtain ⟨q1, q2⟩ := pickV_bd b ((T.size : Int) / 2) (by omega)
      generalize pickV b ((T.size : Int) / 2) = q at q1 q2 ⊢
      obtain ⟨q, rfl⟩ := Int.eq_ofNat_of_zero_le q1
      have hcv := fun W => run_bytes_of_string (P := Try.prog) W 9 34 5 T Try.underlying9 Try.underlying34 Try.underlying5
      go_wp2_with fail
      clear hcv ha1 ha2 hb1 hb2 p1 q1 hTT h4
      generalize grownCap w0 T.size 0 5 = cap
      have hBy := (Bytes.new w0 T cap 5).drew
      have hBl := (hB0.alloc hB0.size (.cells (bytesRow T cap) 5 ((bytesRow T cap).size, (bytesRow T cap).size + 1))).drew
      have hBz : w0.heap.size < (w0.alloc (.cells (bytesRow T cap) 5 ((bytesRow T cap).size, (bytesRow T cap).size + 1))).drew.heap.size := by show w0.heap.size < (w0.alloc _).heap.size; simp
      generalize (w0.alloc (.cells (bytesRow T cap) 5 ((bytesRow T cap).size, (bytesRow T cap).size + 1))).drew = W1 at hBy hBl hBz ⊢
      have hwB : w.heap.size ≤ w0.heap.size := hB0.size
      generalize w0.heap.size = B at hBy hBz hwB ⊢
      clear hB0
      have hlen : T.data.toList.length = T.size := size_toList T
      have HL := Lib.hid hlen
      obtain ⟨ci1, fi1⟩ := hBy (2 * p) (by omega)
      obtain ⟨ck1, fk1⟩ := hBy (2 * q) (by omega)
      have hSw := hBy.swap (2 * p) (2 * q) (by omega) (by omega)
      have hBl2 := (hBl.setCell (p := ⟨B, 2 * p, none⟩) hwB (.int .u8 ((T.data.toList.getD (2 * q) 0).toNat : Int))).setCell (p := ⟨B, 2 * q, none⟩) hwB (.int .u8 ((T.data.toList.getD (2 * p) 0).toNat : Int))
      have hBz2 : B < ((W1.setCell ⟨B, 2 * p, none⟩ (.int .u8 ((T.data.toList.getD (2 * q) 0).toNat : Int))).setCell ⟨B, 2 * q, none⟩ (.int .u8 ((T.data.toList.getD (2 * p) 0).toNat : Int))).heap.size := by simp [World.setCell]; omega
      clear hBy hlen hBl hBz
      generalize T.data.toList.getD (2 * p) 0 = x at ci1 hSw hBl2 hBz2
      generalize T.data.toList.getD (2 * q) 0 = y at ck1 hSw hBl2 hBz2
      have HSw := Lib.hid hSw
      have HBl := Lib.hid hBl2
      have HBz := Lib.hid hBz2
      clear hSw hBl2 hBz2
      have e1 : (2 * (p : Int)) < (T.size : Int) := by omega
      have e2 : (2 * (q : Int)) < (T.size : Int) := by omega
      have e3 : 0 ≤ 2 * (p : Int) := by omega
      have e4 : 0 ≤ 2 * (q : Int) := by omega
      obtain ⟨v, hv⟩ : ∃ v, (W1.setCell ⟨B, 2 * p, none⟩ (.int .u8 (y.toNat : Int))).cell? ⟨B, 2 * q, none⟩ = some v := cellAfter ck1
      have hv2 : (W1.setCell ⟨B, 2 * p, none⟩ (.int .u8 (y.toNat : Int))).frozen? ⟨B, 2 * q, none⟩ = false := by rw [World.frozen?_setCell]; exact fk1
      have e5 : (2 * (p : Int)).toNat = 2 * p := by omega
      have e6 : (2 * (q : Int)).toNat = 2 * q := by omega
      go_region
      clear ci1 ck1 fi1 fk1 hv hv2 e1 e2 e3 e4 e5 e6
      have hBy := HSw.out.drew
      have hBl := HBl.out.drew
      have hBz : B < (((W1.setCell ⟨B, 2 * p, none⟩ (.int .u8 (y.toNat : Int))).setCell ⟨B, 2 * q, none⟩ (.int .u8 (x.toNat : Int))).drew).heap.size := HBz.out
      clear HSw HBl HBz
      generalize ((W1.setCell ⟨B, 2 * p, none⟩ (.int .u8 (y.toNat : Int))).setCell ⟨B, 2 * q, none⟩ (.int .u8 (x.toNat : Int))).drew = W2 at hBy hBl hBz ⊢
      have hlen : (swap T.data.toList (2 * p) (2 * q)).length = T.size := by rw [swap_length]; exact HL.out
      have hck := ck_swap T.data.toList (2 * p) (2 * q) (by rw [HL.out]; omega) (by rw [HL.out]; omega) (by omega)
      have HCK := Lib.hid hck
      clear hck
      generalize swap T.data.toList (2 * p) (2 * q) = L at hBy hlen HCK
      obtain ⟨ci1, fi1⟩ := hBy (2 * p + 1) (by omega)
      obtain ⟨ck1, fk1⟩ := hBy (2 * q + 1) (by omega)
      have hSw := hBy.swap (2 * p + 1) (2 * q + 1) (by omega) (by omega)
      have hBl2 := (hBl.setCell (p := ⟨B, 2 * p + 1, none⟩) hwB (.int .u8 ((L.getD (2 * q + 1) 0).toNat : Int))).setCell (p := ⟨B, 2 * q + 1, none⟩) hwB (.int .u8 ((L.getD (2 * p + 1) 0).toNat : Int))
      have hBz2 : B < ((W2.setCell ⟨B, 2 * p + 1, none⟩ (.int .u8 ((L.getD (2 * q + 1) 0).toNat : Int))).setCell ⟨B, 2 * q + 1, none⟩ (.int .u8 ((L.getD (2 * p + 1) 0).toNat : Int))).heap.size := by simp [World.setCell]; omega
      have hlen2 : (swap L (2 * p + 1) (2 * q + 1)).length = T.size := by rw [swap_length]; exact hlen
      have HL2 := Lib.hid hlen2
      clear hBy hlen hBl hBz hlen2
      generalize L.getD (2 * p + 1) 0 = x2 at ci1 hSw hBl2 hBz2
      generalize L.getD (2 * q + 1) 0 = y2 at ck1 hSw hBl2 hBz2
      have HSw := Lib.hid hSw
      have HBl := Lib.hid hBl2
      have HBz := Lib.hid hBz2
      clear hSw hBl2 hBz2
      obtain ⟨v2, hv⟩ : ∃ v, (W2.setCell ⟨B, 2 * p + 1, none⟩ (.int .u8 (y2.toNat : Int))).cell? ⟨B, 2 * q + 1, none⟩ = some v := cellAfter ck1
      have hv2 : (W2.setCell ⟨B, 2 * p + 1, none⟩ (.int .u8 (y2.toNat : Int))).frozen? ⟨B, 2 * q + 1, none⟩ = false := by rw [World.frozen?_setCell]; exact fk1
      go_wp2_with fail
      have e1 : (2 * (p : Int)) + 1 < (T.size : Int) := by omega
      have e2 : (2 * (q : Int)) + 1 < (T.size : Int) := by omega
      have e3 : 0 ≤ 2 * (p : Int) + 1 := by omega
      have e4 : 0 ≤ 2 * (q : Int) + 1 := by omega
      have e5 : (2 * (p : Int) + 1).toNat = 2 * p + 1 := by omega
      have e6 : (2 * (q : Int) + 1).toNat = 2 * q + 1 := by omega
      have e7 : IntKind.i64.wrap (2 * (p : Int) + 1) = 2 * (p : Int) + 1 := IntWalk.i64_in _ (by omega)
      have e8 : IntKind.i64.wrap (2 * (q : Int) + 1) = 2 * (q : Int) + 1 := IntWalk.i64_in _ (by omega)
      go_region
      clear ci1 ck1 fi1 fk1 hv hv2 e1 e2 e3 e4 e5 e6 e7 e8
      have hBy := HSw.out.drew
      have hBl := HBl.out.drew
      have hBz : B < (((W2.setCell ⟨B, 2 * p + 1, none⟩ (.int .u8 (y2.toNat : Int))).setCell ⟨B, 2 * q + 1, none⟩ (.int .u8 (x2.toNat : Int))).drew).heap.size := HBz.out
      clear HSw HBl HBz
      generalize ((W2.setCell ⟨B, 2 * p + 1, none⟩ (.int .u8 (y2.toNat : Int))).setCell ⟨B, 2 * q + 1, none⟩ (.int .u8 (x2.toNat : Int))).drew = W3 at hBy hBl hBz ⊢
      generalize swap L (2 * p + 1) (2 * q + 1) = L2 at hBy HL2 HCK
      have HBy := Lib.hid hBy
      clear hBy
      go_wp2_with fail
      refine (pick_any z 9 _ hz1 hz2 (by omega) (by omega)).mono ?_
      rintro r w3 ⟨rfl, rfl⟩
      obtain ⟨z1, z2⟩ := pickV_bd z 9 (by omega)
      generalize pickV z 9 = m at z1 z2 ⊢
      obtain ⟨m, rfl⟩ := Int.eq_ofNat_of_zero_le z1
      have hmk := mkz m (by omega)
      have hcv := fun W => cvz W m
      clear z1 hz1 hz2
      have hZs : (zeroB m).size ≤ 8 := by simp [zeroB, ByteArray.size]; omega
      have hZr : Reads (zeroB m) (List.replicate m 0) := by simp [Reads, zeroB]
      have hB4 := hBl.alloc hBl.size (.cells (byteVals (List.replicate m 0)) 5)
      have hBy4 := HBy.out.below hBz ((Below.refl _ _).alloc (Nat.le_refl _) (.cells (byteVals (List.replicate m 0)) 5))
      have hBz4 : B < (W3.alloc (.cells (byteVals (List.replicate m 0)) 5)).heap.size := by simp; omega
      have HB4 := Lib.hid hB4
      have HBy4 := Lib.hid hBy4
      have HBz4 := Lib.hid hBz4
      clear HBy hBl hBz hB4 hBy4 hBz4 z2
      generalize hZ : zeroB m = Z at hZs hZr hcv
      clear hZ
      go_wp2_with fail
      clear hmk hcv
      have hBl := HB4.out
      have HBy := HBy4
      have hBz := HBz4.out
      clear HB4 HBz4
      generalize W3.alloc (.cells (byteVals (List.replicate m 0)) 5) = W4 at hBl HBy hBz ⊢
      refine (checksum_any (T.extract 0 (2 * p)) (by simp [ByteArray.size_extract]; omega) _).mono ?_
      rintro r w4 ⟨rfl, b4⟩
      rw [ext_take]
      have hc1 : cksum (T.data.toList.take (2 * p)) ≤ 65535 := cksum_le _
      have hspl := ck_split T.data.toList (2 * p) (by omega) (by rw [HL.out]; omega)
      generalize cksum (T.data.toList.take (2 * p)) = c1 at hc1 hspl ⊢
      have HSP := Lib.hid hspl
      clear hspl
      have hBl4 := hBl.trans (b4.mono hBl.size)
      have hBy4 := HBy.out.below hBz b4
      have hBz4 := Nat.lt_of_lt_of_le hBz b4.size
      clear hBl HBy hBz b4
      have HBy := Lib.hid hBy4
      clear hBy4
      go_wp2_with fail
      have e1 : (65535 : Int) - (c1 : Int) = ((65535 - c1 : Nat) : Int) := by omega
      rw [e1]
      clear e1
      have HF1 := ck_le_fits (65535 - c1) (by omega)
      obtain ⟨U, hU⟩ : ∃ U : ByteArray, U = ⟨(be 2 (65535 - c1)).toArray⟩ := ⟨_, rfl⟩
      have hUl : Reads U (be 2 (65535 - c1)) := by unfold Reads; rw [hU]
      have hUs : U.size ≤ 2 := by rw [hUl.size, be_length]; exact Nat.le_refl _
      refine (put2_any (65535 - c1) (hpowl2 _ HF1) _).mono ?_
      rintro r w5 ⟨rfl, b5⟩
      rw [← hU]
      clear hU
      have hBl5 := hBl4.trans (b5.mono hBl4.size)
      have hBy5 := HBy.out.below hBz4 b5
      have hBz5 := Nat.lt_of_lt_of_le hBz4 b5.size
      clear hBl4 HBy hBz4 b5
      have HBy := Lib.hid hBy5
      clear hBy5
      go_wp2_with fail
      refine (checksum_any (T.extract (2 * p) T.size) (by simp [ByteArray.size_extract]; omega) _).mono ?_
      rintro r w6 ⟨rfl, b6⟩
      rw [ext_drop T (2 * p) (by omega)]
      have hc2 : cksum (T.data.toList.drop (2 * p)) ≤ 65535 := cksum_le _
      generalize cksum (T.data.toList.drop (2 * p)) = c2 at hc2 HSP ⊢
      have hBl6 := hBl5.trans (b6.mono hBl5.size)
      have hBy6 := HBy.out.below hBz5 b6
      have hBz6 := Nat.lt_of_lt_of_le hBz5 b6.size
      clear hBl5 HBy hBz5 b6
      have HBy := Lib.hid hBy6
      clear hBy6
      go_wp2_with fail
      have e1 : (65535 : Int) - (c2 : Int) = ((65535 - c2 : Nat) : Int) := by omega
      rw [e1]
      clear e1
      have HF2 := ck_le_fits (65535 - c2) (by omega)
      obtain ⟨V, hV⟩ : ∃ V : ByteArray, V = ⟨(be 2 (65535 - c2)).toArray⟩ := ⟨_, rfl⟩
      have hVl : Reads V (be 2 (65535 - c2)) := by unfold Reads; rw [hV]
      have hVs : V.size ≤ 2 := by rw [hVl.size, be_length]; exact Nat.le_refl _
      refine (put2_any (65535 - c2) (hpowl2 _ HF2) _).mono ?_
      rintro r w7 ⟨rfl, b7⟩
      rw [← hV]
      clear hV
      have hBl7 := hBl6.trans (b7.mono hBl6.size)
      have hBy7 := HBy.out.below hBz6 b7
      have hBz7 := Nat.lt_of_lt_of_le hBz6 b7.size
      clear hBl6 HBy hBz6 b7
      have hcv := hBy7.conv cap T.size HL2.out
      obtain ⟨LS, hLS⟩ : ∃ LS : ByteArray, (⟨L2.toArray⟩ : ByteArray) = LS := ⟨_, rfl⟩
      rw [hLS] at hcv
      have hLr : LS.data.toList = L2 := by rw [← hLS]
      have hLz : LS.size ≤ 400 := by rw [← size_toList, hLr, HL2.out]; exact hT4
      have HLr := Lib.hid hLr
      clear hLS hLr hBy7
      go_wp2_with fail
      refine (checksum_any LS (by omega) _).mono ?_
      rintro r w8 ⟨rfl, b8⟩
      rw [HLr.out, HCK.out]
      clear hcv
      go_wp2_with fail
      refine (checksum_any T (by omega) _).mono ?_
      rintro r w9 ⟨rfl, b9⟩
      go_wp2_with fail
      refine (checksum_any (T ++ Z) (by rw [ByteArray.size_append]; omega) _).mono ?_
      rintro r w10 ⟨rfl, b10⟩
      rw [ck_cat hZr, ck_zeros _ (by rw [HL.out]; exact hTE)]
      go_wp2_with fail
      refine (checksum_any T (by omega) _).mono ?_
      rintro r w11 ⟨rfl, b11⟩
      go_wp2_with fail
      refine (checksum_any (U ++ V) (by rw [ByteArray.size_append]; omega) _).mono ?_
      rintro r w12 ⟨rfl, b12⟩
      rw [ck_cat hVl, show U.data.toList = be 2 (65535 - c1) from hUl, HSP.out]
      go_wp2_with fail
      refine (checksum_any T (by omega) _).mono ?_
      rintro r w13 ⟨rfl, b13⟩
      generalize cksum T.data.toList = ck
      have hB13 := hBl7.trans ((below_tr b8 (below_tr b9 (below_tr b10 (below_tr b11 (below_tr b12 b13))))).mono hBl7.size)
      clear hBl7 b8 b9 b10 b11 b12 b13
      go_wp2_with fail
      go_ret
      exact ⟨rfl, hB13⟩
end Go.Proofs.Ytldmkoicjpkdiaa

