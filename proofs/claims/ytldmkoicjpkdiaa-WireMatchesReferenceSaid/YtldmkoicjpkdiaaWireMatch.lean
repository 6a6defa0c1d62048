/- WireMatchesReference: its walk. -/
import Derived.Test.YtldmkoicjpkdiaaWireRefPut
import Derived.Test.YtldmkoicjpkdiaaWireRefCrc
import Derived.Test.YtldmkoicjpkdiaaBlk
namespace Go.Proofs.Ytldmkoicjpkdiaa
open Go.RowKit
/-- At most the greatest int. -/
def Top (n : Int) : Prop := n ≤ 9223372036854775807
set_option maxRecDepth 100000 in
set_option maxHeartbeats 4000000 in
theorem walk_WireMatchesReference (w : World) (n : Int) (wn : (Lit.int .i64 n).wf = true) (z : Int) (wz : (Lit.int .i64 z).wf = true) (s : ByteArray) (hs : s.size ≤ maxLen) (at_ : Int) (wa : (Lit.int .i64 at_).wf = true) :
    Calls Try.prog 3 #[.int .i64 n, .int .i64 z, .string s, .int .i64 at_] w fun r w' => r = .returned (.bool true) ∧ Below w.heap.size w w' := by
  obtain ⟨hn1, hn2⟩ := bounds_i64 wn
  obtain ⟨hz1, hz2⟩ := bounds_i64 wz
  obtain ⟨ha1, ha2⟩ := bounds_i64 wa
  unfold maxLen at hs
  clear wn wz wa
  go_enter Try.func3, Try.ntmps3
  go_wp2_with fail
  refine (sanity_any _).mono ?_
  rintro r w0 ⟨rfl, hB0⟩
  by_cases h5 : 500 < s.size
  · go_wp2_with fail
    have hT : (s.extract 0 500).size ≤ 500 := by simp [ByteArray.size_extract]; omega
    generalize s.extract 0 500 = T at hT ⊢
    refine (pick_any z 4 _ hz1 hz2 (by omega) (by omega)).mono ?_
    rintro r w1 ⟨rfl, rfl⟩
    obtain ⟨p1, p2⟩ := pickV_bd z 4 (by omega)
    generalize pickV z 4 = pz at p1 p2 ⊢
    clear hs h5
    go_wp2_with fail
    go_loopw [37] (fun i wr => ∃ k : Nat, k ≤ 2 ∧ i = .int .i64 k ∧ Blk w0.heap.size #[.int .i64 z, .int .i64 (1 + pz)] wr ∧ Below w.heap.size w wr) (fun i _ => 2 - (intOf i).toNat)
    case atStart => exact ⟨0, by omega, rfl, Blk.new rfl, hB0.alloc hB0.size _⟩
    case round =>
      obtain ⟨k, hk, rfl, hK, hB⟩ := hrel
      by_cases hlt : k < 2
      · obtain ⟨b, hb⟩ : ∃ b : Int, (#[.int .i64 z, .int .i64 (1 + pz)] : Array Value)[k]? = some (.int .i64 b) := by
          rcases (show k = 0 ∨ k = 1 by omega) with rfl | rfl
          · exact ⟨_, rfl⟩
          · exact ⟨_, rfl⟩
        have hc := hK.cell k _ hb
        clear hb
        go_wp2_with fail
        refine (pick_any n 4294967296 _ hn1 hn2 (by omega) (by omega)).mono ?_
        rintro r w1 ⟨rfl, rfl⟩
        have hq1 : Top (pickV n 4294967296) := by have := pickV_bd n 4294967296 (by omega); unfold Top; omega
        generalize pickV n 4294967296 = q1 at hq1 ⊢
        go_wp2_with fail
        refine (pick_any n 300 _ hn1 hn2 (by omega) (by omega)).mono ?_
        rintro r w1 ⟨rfl, rfl⟩
        have hq2 : Top (pickV n 300) := by have := pickV_bd n 300 (by omega); unfold Top; omega
        generalize pickV n 300 = q2 at hq2 ⊢
        clear hc
        go_wp2_with fail
        obtain ⟨wo, rfl⟩ : ∃ wo : World, wo = wr := ⟨_, rfl⟩
        go_loopw [48] (fun i wr => ∃ j : Nat, j ≤ 3 ∧ i = .int .i64 j ∧ Blk w0.heap.size #[.int .i64 z, .int .i64 (1 + pz)] wr ∧ Blk wo.heap.size #[.int .i64 n, .int .i64 q1, .int .i64 q2] wr ∧ Below w.heap.size w wr) (fun i _ => 3 - (intOf i).toNat)
        case atStart => exact ⟨0, by omega, rfl, hK.alloc _, Blk.new rfl, hB.alloc hB.size _⟩
        case round =>
          obtain ⟨j, hj, rfl, hK', hL, hB'⟩ := hrel
          clear hK hB
          by_cases hjt : j < 3
          · obtain ⟨m, hm, hmt⟩ : ∃ m : Int, (#[.int .i64 n, .int .i64 q1, .int .i64 q2] : Array Value)[j]? = some (.int .i64 m) ∧ Top m := by
              rcases (show j = 0 ∨ j = 1 ∨ j = 2 by omega) with rfl | rfl | rfl
              · exact ⟨_, rfl, hn2⟩
              · exact ⟨_, rfl, hq1⟩
              · exact ⟨_, rfl, hq2⟩
            have hc := hL.cell j _ hm
            clear hm
            go_wp2_with fail
            refine (put_any m b hmt _).mono ?_
            rintro r w1 ⟨rfl, b1⟩
            have hB1 := hB'.trans (b1.mono hB'.size)
            have hK1 := hK'.below b1
            have hL1 := hL.below b1
            clear hc b1 hB' hK' hL
            go_wp2_with fail
            refine (refPut_any m b hmt _).mono ?_
            rintro r w2 ⟨rfl, b2⟩
            have hB2 := hB1.trans (b2.mono hB1.size)
            have hK2 := hK1.below b2
            have hL2 := hL1.below b2
            clear b2 hB1 hK1 hL1
            generalize putS m b = u
            generalize putE m b = v
            go_wp2_with fail
            go_roundw
            case rel => exact ⟨j + 1, by omega, by go_num, hK2, hL2, hB2⟩
            case measure => simp [intOf]; omega
          · clear hL
            go_wp2_with fail
            refine (pick_any at_ _ _ ha1 ha2 (by omega) (by omega)).mono ?_
            rintro r w1 ⟨rfl, rfl⟩
            generalize pickV at_ ((T.size : Int) + 1) = qa
            go_wp2_with fail
            obtain ⟨wi, rfl⟩ : ∃ wi : World, wi = wr := ⟨_, rfl⟩
            go_loopw [81] (fun i wr => ∃ j : Nat, j ≤ 2 ∧ i = .int .i64 j ∧ Blk w0.heap.size #[.int .i64 z, .int .i64 (1 + pz)] wr ∧ Blk wi.heap.size #[.int .i64 at_, .int .i64 qa] wr ∧ Below w.heap.size w wr) (fun i _ => 2 - (intOf i).toNat)
            case atStart => exact ⟨0, by omega, rfl, hK'.alloc _, Blk.new rfl, hB'.alloc hB'.size _⟩
            case round =>
              clear hK' hB'
              obtain ⟨j2, hj2, rfl, hK', hL, hB'⟩ := hrel
              by_cases hjt2 : j2 < 2
              · obtain ⟨x, hx⟩ : ∃ x : Int, (#[.int .i64 at_, .int .i64 qa] : Array Value)[j2]? = some (.int .i64 x) := by
                  rcases (show j2 = 0 ∨ j2 = 1 by omega) with rfl | rfl
                  · exact ⟨_, rfl⟩
                  · exact ⟨_, rfl⟩
                have hc := hL.cell j2 _ hx
                clear hx
                go_wp2_with fail
                refine (get_any T (by omega) x b _).mono ?_
                rintro r w1 ⟨rfl, b1⟩
                have hB1 := hB'.trans (b1.mono hB'.size)
                have hK1 := hK'.below b1
                have hL1 := hL.below b1
                clear hc b1 hB' hK' hL
                go_wp2_with fail
                refine (refGet_any T (by omega) x b _).mono ?_
                rintro r w2 ⟨rfl, rfl⟩
                generalize getV T.data.toList x b = u
                generalize getE T.data.toList x b = v
                go_wp2_with fail
                go_roundw
                case rel => exact ⟨j2 + 1, by omega, by go_num, hK1, hL1, hB1⟩
                case measure => simp [intOf]; omega
              · go_wp2_with fail
                go_roundw
                case rel => exact ⟨k + 1, by omega, by go_num, hK', hB'⟩
                case measure => simp [intOf]; omega
      · clear hK
        go_wp2_with fail
        refine (checksum_any T (by omega) _).mono ?_
        rintro r w1 ⟨rfl, b1⟩
        go_wp2_with fail
        refine (refChecksum_any T (by omega) _).mono ?_
        rintro r w2 ⟨rfl, rfl⟩
        generalize cksum T.data.toList = c1
        go_wp2_with fail
        refine (crc32_any T _ (by unfold maxLen; omega)).mono ?_
        rintro r w3 ⟨rfl, b3⟩
        go_wp2_with fail
        refine (refCrc32_any T (by unfold maxLen; omega) _).mono ?_
        rintro r w4 ⟨rfl, rfl⟩
        generalize crc T.data.toList = c2
        have hB4 := hB.trans ((below_tr b1 b3).mono hB.size)
        clear b1 b3 hB
        go_wp2_with fail
        go_ret
        exact ⟨rfl, hB4⟩
  · go_wp2_with fail
    obtain ⟨T, rfl⟩ : ∃ T, T = s := ⟨_, rfl⟩
    have hT : T.size ≤ 500 := by omega
    refine (pick_any z 4 _ hz1 hz2 (by omega) (by omega)).mono ?_
    rintro r w1 ⟨rfl, rfl⟩
    obtain ⟨p1, p2⟩ := pickV_bd z 4 (by omega)
    generalize pickV z 4 = pz at p1 p2 ⊢
    clear hs h5
    go_wp2_with fail
    go_loopw [37] (fun i wr => ∃ k : Nat, k ≤ 2 ∧ i = .int .i64 k ∧ Blk w0.heap.size #[.int .i64 z, .int .i64 (1 + pz)] wr ∧ Below w.heap.size w wr) (fun i _ => 2 - (intOf i).toNat)
    case atStart => exact ⟨0, by omega, rfl, Blk.new rfl, hB0.alloc hB0.size _⟩
    case round =>
      obtain ⟨k, hk, rfl, hK, hB⟩ := hrel
      by_cases hlt : k < 2
      · obtain ⟨b, hb⟩ : ∃ b : Int, (#[.int .i64 z, .int .i64 (1 + pz)] : Array Value)[k]? = some (.int .i64 b) := by
          rcases (show k = 0 ∨ k = 1 by omega) with rfl | rfl
          · exact ⟨_, rfl⟩
          · exact ⟨_, rfl⟩
        have hc := hK.cell k _ hb
        clear hb
        go_wp2_with fail
        refine (pick_any n 4294967296 _ hn1 hn2 (by omega) (by omega)).mono ?_
        rintro r w1 ⟨rfl, rfl⟩
        have hq1 : Top (pickV n 4294967296) := by have := pickV_bd n 4294967296 (by omega); unfold Top; omega
        generalize pickV n 4294967296 = q1 at hq1 ⊢
        go_wp2_with fail
        refine (pick_any n 300 _ hn1 hn2 (by omega) (by omega)).mono ?_
        rintro r w1 ⟨rfl, rfl⟩
        have hq2 : Top (pickV n 300) := by have := pickV_bd n 300 (by omega); unfold Top; omega
        generalize pickV n 300 = q2 at hq2 ⊢
        clear hc
        go_wp2_with fail
        obtain ⟨wo, rfl⟩ : ∃ wo : World, wo = wr := ⟨_, rfl⟩
        go_loopw [48] (fun i wr => ∃ j : Nat, j ≤ 3 ∧ i = .int .i64 j ∧ Blk w0.heap.size #[.int .i64 z, .int .i64 (1 + pz)] wr ∧ Blk wo.heap.size #[.int .i64 n, .int .i64 q1, .int .i64 q2] wr ∧ Below w.heap.size w wr) (fun i _ => 3 - (intOf i).toNat)
        case atStart => exact ⟨0, by omega, rfl, hK.alloc _, Blk.new rfl, hB.alloc hB.size _⟩
        case round =>
          obtain ⟨j, hj, rfl, hK', hL, hB'⟩ := hrel
          clear hK hB
          by_cases hjt : j < 3
          · obtain ⟨m, hm, hmt⟩ : ∃ m : Int, (#[.int .i64 n, .int .i64 q1, .int .i64 q2] : Array Value)[j]? = some (.int .i64 m) ∧ Top m := by
              rcases (show j = 0 ∨ j = 1 ∨ j = 2 by omega) with rfl | rfl | rfl
              · exact ⟨_, rfl, hn2⟩
              · exact ⟨_, rfl, hq1⟩
              · exact ⟨_, rfl, hq2⟩
            have hc := hL.cell j _ hm
            clear hm
            go_wp2_with fail
            refine (put_any m b hmt _).mono ?_
            rintro r w1 ⟨rfl, b1⟩
            have hB1 := hB'.trans (b1.mono hB'.size)
            have hK1 := hK'.below b1
            have hL1 := hL.below b1
            clear hc b1 hB' hK' hL
            go_wp2_with fail
            refine (refPut_any m b hmt _).mono ?_
            rintro r w2 ⟨rfl, b2⟩
            have hB2 := hB1.trans (b2.mono hB1.size)
            have hK2 := hK1.below b2
            have hL2 := hL1.below b2
            clear b2 hB1 hK1 hL1
            generalize putS m b = u
            generalize putE m b = v
            go_wp2_with fail
            go_roundw
            case rel => exact ⟨j + 1, by omega, by go_num, hK2, hL2, hB2⟩
            case measure => simp [intOf]; omega
          · clear hL
            go_wp2_with fail
            refine (pick_any at_ _ _ ha1 ha2 (by omega) (by omega)).mono ?_
            rintro r w1 ⟨rfl, rfl⟩
            generalize pickV at_ ((T.size : Int) + 1) = qa
            go_wp2_with fail
            obtain ⟨wi, rfl⟩ : ∃ wi : World, wi = wr := ⟨_, rfl⟩
            go_loopw [81] (fun i wr => ∃ j : Nat, j ≤ 2 ∧ i = .int .i64 j ∧ Blk w0.heap.size #[.int .i64 z, .int .i64 (1 + pz)] wr ∧ Blk wi.heap.size #[.int .i64 at_, .int .i64 qa] wr ∧ Below w.heap.size w wr) (fun i _ => 2 - (intOf i).toNat)
            case atStart => exact ⟨0, by omega, rfl, hK'.alloc _, Blk.new rfl, hB'.alloc hB'.size _⟩
            case round =>
              clear hK' hB'
              obtain ⟨j2, hj2, rfl, hK', hL, hB'⟩ := hrel
              by_cases hjt2 : j2 < 2
              · obtain ⟨x, hx⟩ : ∃ x : Int, (#[.int .i64 at_, .int .i64 qa] : Array Value)[j2]? = some (.int .i64 x) := by
                  rcases (show j2 = 0 ∨ j2 = 1 by omega) with rfl | rfl
                  · exact ⟨_, rfl⟩
                  · exact ⟨_, rfl⟩
                have hc := hL.cell j2 _ hx
                clear hx
                go_wp2_with fail
                refine (get_any T (by omega) x b _).mono ?_
                rintro r w1 ⟨rfl, b1⟩
                have hB1 := hB'.trans (b1.mono hB'.size)
                have hK1 := hK'.below b1
                have hL1 := hL.below b1
                clear hc b1 hB' hK' hL
                go_wp2_with fail
                refine (refGet_any T (by omega) x b _).mono ?_
                rintro r w2 ⟨rfl, rfl⟩
                generalize getV T.data.toList x b = u
                generalize getE T.data.toList x b = v
                go_wp2_with fail
                go_roundw
                case rel => exact ⟨j2 + 1, by omega, by go_num, hK1, hL1, hB1⟩
                case measure => simp [intOf]; omega
              · go_wp2_with fail
                go_roundw
                case rel => exact ⟨k + 1, by omega, by go_num, hK', hB'⟩
                case measure => simp [intOf]; omega
      · clear hK
        go_wp2_with fail
        refine (checksum_any T (by omega) _).mono ?_
        rintro r w1 ⟨rfl, b1⟩
        go_wp2_with fail
        refine (refChecksum_any T (by omega) _).mono ?_
        rintro r w2 ⟨rfl, rfl⟩
        generalize cksum T.data.toList = c1
        go_wp2_with fail
        refine (crc32_any T _ (by unfold maxLen; omega)).mono ?_
        rintro r w3 ⟨rfl, b3⟩
        go_wp2_with fail
        refine (refCrc32_any T (by unfold maxLen; omega) _).mono ?_
        rintro r w4 ⟨rfl, rfl⟩
        generalize crc T.data.toList = c2
        have hB4 := hB.trans ((below_tr b1 b3).mono hB.size)
        clear b1 b3 hB
        go_wp2_with fail
        go_ret
        exact ⟨rfl, hB4⟩
end Go.Proofs.Ytldmkoicjpkdiaa

