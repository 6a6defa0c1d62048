/- LinkRejectsOtherLengths: its walk. -/
import Derived.Test.YtldmkoicjpkdiaaDoorLkFr2
namespace Go.Proofs.YtldmkoicjpkdiaaDoor
open Go.RowKit
set_option maxRecDepth 100000 in
set_option maxHeartbeats 4000000 in
theorem walk_LinkRejectsOtherLengths (w : World) (t f k : Int) (s : ByteArray) (hwf : WfF t f k s) (at_ : Int) (wat : (Lit.int .i64 at_).wf = true) (more : ByteArray) (hmore : more.size ≤ maxLen) (hE : ∃ a, ErrS a w) :
    Calls Tryd.prog 7 #[.agg #[.int .i64 t, .int .i64 f, .int .i64 k, .string s], .int .i64 at_, .string more] w fun e w' => e = .returned (.bool true) ∧ Below w.heap.size w w' := by
  obtain ⟨a, he⟩ := hE
  have hb0 := Below.refl w.heap.size w
  obtain ⟨at1, at2⟩ := bounds_i64 wat
  clear wat
  have hm9 : more.size ≤ 9223372036854775807 := hmore
  clear hmore
  have m1 : 0 ≤ min (more.size : Int) 100 := by omega
  have m2 : min (more.size : Int) 100 ≤ (more.size : Int) := by omega
  go_enter Tryd.func7, Tryd.ntmps7
  go_wp2_with fail
  have x := Box.new w t f k s 23
  have hb := new_below w (.cells #[.int .i64 t, .int .i64 f, .int .i64 k, .string s] 23)
  replace he := he.below hb he.2
  replace hb0 := below_val hb0 hb0.size hb
  clear hb
  generalize w.alloc (.cells #[.int .i64 t, .int .i64 f, .int .i64 k, .string s] 23) = V1 at *
  generalize w.heap.size = G1 at x ⊢
  refine (sane_any a _ he).mono ?_
  rintro e W2 ⟨rfl, hb⟩
  replace he := he.below hb he.2
  replace x := x.below hb
  replace hb0 := below_val hb0 hb0.size hb
  clear hb
  obtain ⟨x0, x1, x2, x3, xl⟩ := x
  go_wp2_with fail
  have x := Box.mk x0 x1 x2 x3 xl
  clear x0 x1 x2 x3 xl
  refine (frame_some t f k s hwf _).mono ?_
  rintro e W3 ⟨T, F, K, S, rfl, hok, hS, ⟨hF1, hF2⟩, hb⟩
  have HOK := Lib.hid hok
  clear hok hF1 hF2
  replace he := he.below hb he.2
  replace x := x.below hb
  replace hb0 := below_val hb0 hb0.size hb
  clear hb
  obtain ⟨x0, x1, x2, x3, xl⟩ := x
  go_wp2_with fail
  have x := Box.mk x0 x1 x2 x3 xl
  clear x0 x1 x2 x3 xl
  refine (encode_some T F K S HOK.out a _ he).mono ?_
  rintro e W4 ⟨E, rfl, hEs, HEE, HED, he, hb⟩
  replace x := x.below hb
  replace hb0 := below_val hb0 hb0.size hb
  clear hb
  have hE0 : ¬ (E.size : Int) = 0 := by omega
  obtain ⟨x0, x1, x2, x3, xl⟩ := x
  go_wp2_with fail
  have x := Box.mk x0 x1 x2 x3 xl
  clear x0 x1 x2 x3 xl
  clear x
  refine (pick_some at_ (11 + (S.size : Int)) _ (by omega) (by omega) (by omega) (by omega)).mono ?_
  rintro e WW ⟨j, rfl, hj, rfl⟩
  go_wp2_with fail
  all_goals have hjE : j < E.size := by omega
  all_goals have P := prefix_no HOK.out HEE.out hjE
  · have hM0 : 0 < (⟨#[0]⟩ : ByteArray).size := by decide
    have hM1 : (⟨#[0]⟩ : ByteArray).size ≤ 100 := by decide
    have Q := more_no HOK.out HEE.out hM0
    generalize (⟨#[0]⟩ : ByteArray) = M at *
    have HP := Lib.hid P
    have HQ := Lib.hid Q
    clear P Q
    refine (decode_err (E.extract 0 j) (by rw [ByteArray.size_extract]; omega) a _ he).mono ?_
    rintro e W7 ⟨rfl, he, hb⟩
    rw [HP.out, decNo]
    replace hb0 := below_val hb0 hb0.size hb
    clear hb
    go_wp2_with fail
    have hb := new_below W7 (.cells #[.int .i64 0, .int .i64 0, .int .i64 0, .string ⟨#[]⟩] 23)
    replace he := he.below hb he.2
    replace hb0 := below_val hb0 hb0.size hb
    clear hb
    generalize W7.alloc (.cells #[.int .i64 0, .int .i64 0, .int .i64 0, .string ⟨#[]⟩] 23) = V7 at *
    with_reducible refine (decode_err (E ++ M) (by rw [ByteArray.size_append]; omega) a _ he).mono ?_
    rintro e W8 ⟨rfl, he, hb⟩
    rw [HQ.out, decNo]
    replace hb0 := below_val hb0 hb0.size hb
    clear hb
    go_wp2_with fail
    go_ret
    exact ⟨rfl, hb0.alloc hb0.size _⟩
  · have hM0 : 0 < (more.extract 0 (min (more.size : Int) 100).toNat).size := nonempty (by assumption)
    have hM1 : (more.extract 0 (min (more.size : Int) 100).toNat).size ≤ 100 := by rw [ByteArray.size_extract]; omega
    have Q := more_no HOK.out HEE.out hM0
    generalize (more.extract 0 (min (more.size : Int) 100).toNat) = M at *
    have HP := Lib.hid P
    have HQ := Lib.hid Q
    clear P Q
    refine (decode_err (E.extract 0 j) (by rw [ByteArray.size_extract]; omega) a _ he).mono ?_
    rintro e W7 ⟨rfl, he, hb⟩
    rw [HP.out, decNo]
    replace hb0 := below_val hb0 hb0.size hb
    clear hb
    go_wp2_with fail
    have hb := new_below W7 (.cells #[.int .i64 0, .int .i64 0, .int .i64 0, .string ⟨#[]⟩] 23)
    replace he := he.below hb he.2
    replace hb0 := below_val hb0 hb0.size hb
    clear hb
    generalize W7.alloc (.cells #[.int .i64 0, .int .i64 0, .int .i64 0, .string ⟨#[]⟩] 23) = V7 at *
    with_reducible refine (decode_err (E ++ M) (by rw [ByteArray.size_append]; omega) a _ he).mono ?_
    rintro e W8 ⟨rfl, he, hb⟩
    rw [HQ.out, decNo]
    replace hb0 := below_val hb0 hb0.size hb
    clear hb
    go_wp2_with fail
    go_ret
    exact ⟨rfl, hb0.alloc hb0.size _⟩
end Go.Proofs.YtldmkoicjpkdiaaDoor
