/- LinkDetectsByteErrors: its walk. -/
import Derived.Test.YtldmkoicjpkdiaaDoorLkFr2
namespace Go.Proofs.YtldmkoicjpkdiaaDoor
open Go.RowKit
set_option maxRecDepth 100000 in
set_option maxHeartbeats 4000000 in
theorem walk_LinkDetectsByteErrors (w : World) (t f k : Int) (s : ByteArray) (hwf : WfF t f k s) (at_ : Int) (wat : (Lit.int .i64 at_).wf = true) (c : Int) (wc : (Lit.int .u8 c).wf = true) (hE : ∃ a, ErrS a w) :
    Calls Tryd.prog 6 #[.agg #[.int .i64 t, .int .i64 f, .int .i64 k, .string s], .int .i64 at_, .int .u8 c] w fun e w' => e = .returned (.bool true) ∧ Below w.heap.size w w' := by
  obtain ⟨a, he⟩ := hE
  have hb0 := Below.refl w.heap.size w
  obtain ⟨at1, at2⟩ := bounds_i64 wat
  clear wat
  obtain ⟨c1, c2⟩ := bounds_u8 wc
  clear wc
  obtain ⟨c, rfl⟩ := Int.eq_ofNat_of_zero_le c1
  go_enter Tryd.func6, Tryd.ntmps6
  go_wp2_with fail
  have x := Box.new w t f k s 23
  have hb := new_below w (.cells #[.int .i64 t, .int .i64 f, .int .i64 k, .string s] 23)
  replace he := he.below hb he.2
  replace hb0 := below_val hb0 hb0.size hb
  clear hb
  generalize w.alloc (.cells #[.int .i64 t, .int .i64 f, .int .i64 k, .string s] 23) = V1 at *
  generalize w.heap.size = G1 at x ⊢
  refine (sane_any a _ he).mono ?_
  rintro e W2 ⟨rfl, hb⟩
  replace he := he.below hb he.2
  replace x := x.below hb
  replace hb0 := below_val hb0 hb0.size hb
  clear hb
  obtain ⟨x0, x1, x2, x3, xl⟩ := x
  go_wp2_with fail
  have x := Box.mk x0 x1 x2 x3 xl
  clear x0 x1 x2 x3 xl
  refine (frame_some t f k s hwf _).mono ?_
  rintro e W3 ⟨T, F, K, S, rfl, hok, hS, ⟨hF1, hF2⟩, hb⟩
  have HOK := Lib.hid hok
  clear hok hF1 hF2
  replace he := he.below hb he.2
  replace x := x.below hb
  replace hb0 := below_val hb0 hb0.size hb
  clear hb
  obtain ⟨x0, x1, x2, x3, xl⟩ := x
  go_wp2_with fail
  have x := Box.mk x0 x1 x2 x3 xl
  clear x0 x1 x2 x3 xl
  refine (encode_some T F K S HOK.out a _ he).mono ?_
  rintro e W4 ⟨E, rfl, hEs, HEE, HED, he, hb⟩
  replace x := x.below hb
  replace hb0 := below_val hb0 hb0.size hb
  clear hb
  have hE0 : ¬ (E.size : Int) = 0 := by omega
  obtain ⟨x0, x1, x2, x3, xl⟩ := x
  go_wp2_with fail
  have x := Box.mk x0 x1 x2 x3 xl
  clear x0 x1 x2 x3 xl
  clear x
  refine (pick_some at_ (11 + (S.size : Int)) _ (by omega) (by omega) (by omega) (by omega)).mono ?_
  rintro e WW ⟨j, rfl, hj, rfl⟩
  have hcvy := conv_y W4 c (by omega)
  go_wp2_with fail
  have hjE : j < E.size := by omega
  have j1 : IntKind.i64.wrap ((j : Int) + 1) = (j : Int) + 1 := IntWalk.i64_in _ (by omega)
  have j2 : 0 ≤ (j : Int) + 1 := by omega
  have j3 : ((j : Int) + 1).toNat = j + 1 := by omega
  have j4 : (j : Int) + 1 ≤ 11 + (S.size : Int) := by omega
  have j5 : (j : Int) ≤ 11 + (S.size : Int) := by omega
  go_region
  clear j1 j2 j3 j4 j5 hcvy
  replace he := he.below ((Below.refl W4.heap.size W4).alloc (Nat.le_refl _) (.cells #[.int .u8 (c : Int)] 5)).drew he.2
  replace hb0 := (hb0.alloc hb0.size (.cells #[.int .u8 (c : Int)] 5)).drew
  generalize (W4.alloc (.cells #[.int .u8 (c : Int)] 5)).drew = V5 at *
  have A1 : (E.extract 0 j).size ≤ 1011 := by rw [ByteArray.size_extract]; omega
  have A2 : (E.extract (j + 1) (11 + S.size)).size ≤ 1011 := by rw [ByteArray.size_extract]; omega
  rw [← hEs] at A2 ⊢
  generalize hA : E.extract 0 j = A at *
  generalize hB : E.extract (j + 1) E.size = B at *
  have hX : (A ++ (⟨#[UInt8.ofNat c]⟩ : ByteArray) ++ B).size ≤ 1048576 := by rw [ByteArray.size_append, ByteArray.size_append]; show A.size + 1 + B.size ≤ _; omega
  by_cases hc : E[j] = UInt8.ofNat c
  · have hy := byte_same hjE hA hB hc
    rw [hy]
    clear hA hB hy hX hc A1 A2
    go_wp2_with fail
    refine (decode_err E (by omega) a _ he).mono ?_
    rintro e W8 ⟨rfl, he, hb⟩
    rw [HED.out]
    replace hb0 := below_val hb0 hb0.size hb
    go_wp2_with fail
    go_ret
    exact ⟨rfl, hb0.alloc hb0.size _⟩
  · obtain ⟨n1, n2⟩ := byte_no HOK.out HEE.out hjE hA hB hc
    generalize A ++ (⟨#[UInt8.ofNat c]⟩ : ByteArray) ++ B = X at *
    clear hA hB hc A1 A2
    go_wp2_with fail
    refine (decode_err X hX a _ he).mono ?_
    rintro e W8 ⟨rfl, he, hb⟩
    rw [n1, decNo]
    replace hb0 := below_val hb0 hb0.size hb
    go_wp2_with fail
    go_ret
    exact ⟨rfl, hb0.alloc hb0.size _⟩
end Go.Proofs.YtldmkoicjpkdiaaDoor
