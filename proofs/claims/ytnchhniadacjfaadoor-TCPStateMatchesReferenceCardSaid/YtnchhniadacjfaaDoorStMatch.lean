/- TCPStateMatchesReference: its walk. -/
import Derived.Test.YtnchhniadacjfaaDoorStSanity
import Derived.Test.YtnchhniadacjfaaDoorStRef
import Derived.Test.YtnchhniadacjfaaDoorStOrders
namespace Go.Proofs.YtnchhniadacjfaaDoor
open Go.RowKit
set_option maxRecDepth 100000 in
set_option maxHeartbeats 4000000 in
theorem walk_TCPStateMatchesReference (w : World) (s : Int) (hs : (Lit.int .i64 s).wf = true) (e : Int) (he : (Lit.int .i64 e).wf = true) (h : Triples w ∧ Names w) :
    Calls Tryd.prog 3 #[.int .i64 s, .int .i64 e] w fun r w' => r = .returned (.bool true) ∧ Below w.heap.size w w' := by
  obtain ⟨hs1, hs2⟩ := wf64 hs
  obtain ⟨he1, he2⟩ := wf64 he
  obtain ⟨hT, hN⟩ := h
  clear hs he
  go_enter Tryd.func3, Tryd.ntmps3
  go_wp2_with fail
  refine (sanity_any _ hT hN).mono ?_
  rintro r w0 ⟨rfl, hB0⟩
  go_wp2_with fail
  refine (pick_any s 12 _ hs1 hs2 (by omega) (by omega)).mono ?_
  rintro r w1 ⟨rfl, rfl⟩
  obtain ⟨hp1, hp2⟩ := pickV_bd s 12 (by omega)
  generalize pickV s 12 = ps at hp1 hp2 ⊢
  go_wp2_with fail
  go_loopw [21] (fun i wr => ∃ k : Nat, k ≤ 2 ∧ i = .int .i64 k ∧ Blk w0.heap.size #[.int .i64 s, .int .i64 (ps - 1)] wr ∧ Below w.heap.size w wr) (fun i _ => 2 - (intOf i).toNat)
  case atStart => exact ⟨0, by omega, rfl, Blk.new rfl, hB0.alloc hB0.size _⟩
  case round =>
    obtain ⟨k, hk, rfl, hK, hB⟩ := hrel
    by_cases hlt : k < 2
    · obtain ⟨x, hx⟩ : ∃ x : Int, (#[.int .i64 s, .int .i64 (ps - 1)] : Array Value)[k]? = some (.int .i64 x) := by
        rcases (show k = 0 ∨ k = 1 by omega) with rfl | rfl
        · exact ⟨_, rfl⟩
        · exact ⟨_, rfl⟩
      have hc := hK.cell k _ hx
      clear hx
      go_wp2_with fail
      refine (pick_any e 12 _ he1 he2 (by omega) (by omega)).mono ?_
      rintro r w1 ⟨rfl, rfl⟩
      obtain ⟨hq1, hq2⟩ := pickV_bd e 12 (by omega)
      generalize pickV e 12 = pe at hq1 hq2 ⊢
      clear hc
      go_wp2_with fail
      obtain ⟨wo, rfl⟩ : ∃ wo : World, wo = wr := ⟨_, rfl⟩
      go_loopw [31] (fun i wr' => ∃ j : Nat, j ≤ 2 ∧ i = .int .i64 j ∧ Blk w0.heap.size #[.int .i64 s, .int .i64 (ps - 1)] wr' ∧ Blk wo.heap.size #[.int .i64 e, .int .i64 (pe - 1)] wr' ∧ Below w.heap.size w wr') (fun i _ => 2 - (intOf i).toNat)
      case atStart => exact ⟨0, by omega, rfl, hK.alloc _, Blk.new rfl, hB.alloc hB.size _⟩
      case round =>
        obtain ⟨j, hj, rfl, hK', hL, hB'⟩ := hrel
        clear hK hB
        by_cases hjt : j < 2
        · obtain ⟨y, hy⟩ : ∃ y : Int, (#[.int .i64 e, .int .i64 (pe - 1)] : Array Value)[j]? = some (.int .i64 y) := by
            rcases (show j = 0 ∨ j = 1 by omega) with rfl | rfl
            · exact ⟨_, rfl⟩
            · exact ⟨_, rfl⟩
          have hc := hL.cell j _ hy
          clear hy
          go_wp2_with fail
          refine (step_any x y _ (hT.below hB')).mono ?_
          rintro r w1 ⟨rfl, b1⟩
          have hB1 := hB'.trans (b1.mono hB'.size)
          have hK1 := hK'.below b1
          have hL1 := hL.below b1
          clear hc b1 hB' hK' hL
          go_wp2_with fail
          refine (refStep_any x y _).mono ?_
          rintro r w2 ⟨rfl, rfl⟩
          generalize stN x y = p
          generalize stE x y = q
          go_wp2_with fail
          go_roundw
          case rel => exact ⟨j + 1, by omega, by go_num, hK1, hL1, hB1⟩
          case measure => simp [intOf]; omega
        · go_wp2_with fail
          refine (canSend_any x _).mono ?_
          rintro r w2 ⟨rfl, rfl⟩
          go_wp2_with fail
          refine (refCanSend_any x _).mono ?_
          rintro r w2 ⟨rfl, rfl⟩
          generalize canS x = c1
          go_wp2_with fail
          refine (canReceive_any x _).mono ?_
          rintro r w2 ⟨rfl, rfl⟩
          go_wp2_with fail
          refine (refCanReceive_any x _).mono ?_
          rintro r w2 ⟨rfl, rfl⟩
          generalize canR x = c2
          go_wp2_with fail
          refine (synchronized_any x _).mono ?_
          rintro r w2 ⟨rfl, rfl⟩
          go_wp2_with fail
          refine (refSynchronized_any x _).mono ?_
          rintro r w2 ⟨rfl, rfl⟩
          generalize synced x = c3
          go_wp2_with fail
          refine (string_any x _ (hN.below hB')).mono ?_
          rintro r w2 ⟨rfl, rfl⟩
          go_wp2_with fail
          refine (refString_any x _).mono ?_
          rintro r w2 ⟨rfl, b2⟩
          generalize nameB x = nb
          have hB2 := hB'.trans (b2.mono hB'.size)
          have hK2 := hK'.below b2
          clear b2 hB' hK'
          go_wp2_with fail
          go_roundw
          case rel => exact ⟨k + 1, by omega, by go_num, hK2, hB2⟩
          case measure => simp [intOf]; omega
    · go_wp2_with fail
      go_ret
      exact ⟨rfl, hB⟩
end Go.Proofs.YtnchhniadacjfaaDoor
