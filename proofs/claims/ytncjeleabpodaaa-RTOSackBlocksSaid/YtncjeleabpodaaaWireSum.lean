/- wire.words and wire.Checksum. -/
import Derived.Test.YtncjeleabpodaaaRows
import Derived.Test.YtncjeleabpodaaaWirePlain
import Derived.Test.YtncjeleabpodaaaWireBits
import Derived.RangeFuncNested
import Derived.RangeFuncBound
import Derived.RangeFuncCalls
import Derived.RangeFuncLeaves
import Derived.Shelf.Abstract
import Derived.Shelf.RegionOpen
import Derived.WalkKit
import Derived.OwnWalkIn
import Derived.TacticsInMore
import Derived.LoopNIn
import Derived.LoopIn
import Derived.Lib.Hide
import Derived.Laws.BitsAllLaws
import Derived.IntWalk
namespace Go.Proofs.Ytncjeleabpodaaa
open Go.RowKit Go.Shelf
attribute [local go_sem] Oper.semAt_some
theorem list_at (s : ByteArray) (i : Nat) (h : i < s.size) : s.data.toList.getD i 0 = s[i] := by
  rw [List.getD_eq_getElem?_getD, List.getElem?_eq_getElem (by simpa using h)]; rfl
theorem wordF_both (s : ByteArray) (k : Nat) (h : 2 * k + 1 < s.size) : (wordF s.data.toList k).val = 256 * s[2 * k].toNat + s[2 * k + 1].toNat := by
  show wAt _ _ = _
  unfold wAt
  rw [list_at s _ h, list_at s (2 * k) (by omega)]
theorem wordF_one (s : ByteArray) (k : Nat) (h : 2 * k < s.size) (h1 : ¬ 2 * k + 1 < s.size) : (wordF s.data.toList k).val = 256 * s[2 * k].toNat := by
  show wAt _ _ = _
  unfold wAt
  rw [list_at s _ h, List.getD_eq_getElem?_getD, List.getElem?_eq_none (by simp; omega)]
  rfl
set_option maxRecDepth 100000 in
set_option maxHeartbeats 1000000 in
theorem words1_in (F : Fence) (n : Nat) (h6 : F.fn 106) (hro : F.round = none) (hn : 1 ≤ n) (l Bn : Nat) (s : ByteArray) (hs : s.size ≤ 1099511627776) (J Jx : List (Fin 65536) → World → Prop)
    (hY : ∀ pre x W, J pre W → pre.length < (s.size + 1) / 2 → YieldAt F (n - 1) Try.prog l #[.int .i64 (x.val : Int)] W fun e W' =>
      (e = .returned (.bool true) ∧ J (pre ++ [x]) W' ∧ W'.cell? ⟨Bn, 0, none⟩ = W.cell? ⟨Bn, 0, none⟩) ∨ (e = .returned (.bool false) ∧ Jx (pre ++ [x]) W'))
    (W : World) (hBn : W.cell? ⟨Bn, 0, none⟩ = some (.string s)) (h0 : J [] W) :
    CallsIn F n Try.prog 106 #[.func (.yield l) #[] #[], .pointer (some ⟨Bn, 0, none⟩)] W fun e W' => (∃ v, e = .returned v) ∧
      ((∃ ys, ys = wordsTo s.data.toList ((s.size + 1) / 2) ∧ J ys W') ∨ (∃ pre, True ∧ Jx pre W')) := by
  refine callsIn_of_wp Try.func106 rfl h6 ?_ hro
  simp only [Try.ntmps106, List.size_toArray, List.length_cons, List.length_nil, Nat.reduceAdd, Nat.reduceSub, Array.replicate_succ, Array.replicate_zero, List.push_toArray, List.append_toArray, List.nil_append, List.cons_append]
  gi_wp2
  gi_loopw [3] (fun p wr => ∃ k : Nat, p = .int .i64 (2 * (k : Int)) ∧ 2 * k ≤ s.size + 1 ∧ wr.cell? ⟨Bn, 0, none⟩ = some (.string s) ∧ J (wordsTo s.data.toList k) wr)
    (fun p _ => s.size + 1 - (intOf p).toNat)
  case atStart =>
    exact ⟨0, rfl, by omega, hBn, h0⟩
  case round =>
    obtain ⟨k, rfl, hk, hc, hJ⟩ := hrel
    by_cases hlt : 2 * k < s.size
    · obtain ⟨x, hx⟩ : ∃ x, x = wordF s.data.toList k := ⟨_, rfl⟩
      have HX := Lib.hid hx
      clear hx
      obtain ⟨fn, tmps, assign, body, hy, hR⟩ := hY _ x wr hJ (by rw [wordsTo_length]; omega)
      by_cases hlt1 : 2 * k + 1 < s.size
      · have hb0 := s[2 * k].toNat_lt
        have hb1 := s[2 * k + 1].toNat_lt
        have hor : bits BinOp.or IntKind.i64 ((s[2 * k].toNat : Int) * 256) (s[2 * k + 1].toNat : Int) = ((x.val : Nat) : Int) := by
          rw [or_word _ _ hb0 hb1, HX.out, wordF_both s k hlt1]
        gi_wp2
        refine hR.mono ?_
        rintro e W3 (⟨rfl, hJ3, hk3⟩ | ⟨rfl, hJx3⟩)
        · have hc3 := hk3.trans hc
          gi_wp2
          go_roundw
          case rel => exact ⟨k + 1, by go_num, by omega, hc3, by rw [wordsTo_succ, ← HX.out]; exact hJ3⟩
          case measure => simp [intOf]; omega
        · gi_wp2
          refine bodyPost_ret (results_none rfl _ _ _) rfl ?_
          exact ⟨⟨_, rfl⟩, .inr ⟨_, trivial, hJx3⟩⟩
      · have hb0 := s[2 * k].toNat_lt
        have hor : (s[2 * k].toNat : Int) * 256 = ((x.val : Nat) : Int) := by
          rw [HX.out, wordF_one s k hlt hlt1]; omega
        gi_wp2
        refine hR.mono ?_
        rintro e W3 (⟨rfl, hJ3, hk3⟩ | ⟨rfl, hJx3⟩)
        · have hc3 := hk3.trans hc
          gi_wp2
          go_roundw
          case rel => exact ⟨k + 1, by go_num, by omega, hc3, by rw [wordsTo_succ, ← HX.out]; exact hJ3⟩
          case measure => simp [intOf]; omega
        · gi_wp2
          refine bodyPost_ret (results_none rfl _ _ _) rfl ?_
          exact ⟨⟨_, rfl⟩, .inr ⟨_, trivial, hJx3⟩⟩
    · gi_wp2
      go_end0
      exact ⟨⟨_, rfl⟩, .inl ⟨_, rfl, by rw [show (s.size + 1) / 2 = k by omega]; exact hJ⟩⟩
end Go.Proofs.Ytncjeleabpodaaa
