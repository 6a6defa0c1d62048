/- LinkCanonical: its walk. -/
import Derived.Test.YtldmkoicjpkdiaaDoorLkBox
namespace Go.Proofs.YtldmkoicjpkdiaaDoor
open Go.RowKit
set_option maxRecDepth 100000 in
set_option maxHeartbeats 4000000 in
theorem walk_LinkCanonical (w : World) (s : ByteArray) (hs : s.size ≤ maxLen) (hE : ∃ a, ErrS a w) :
    Calls Tryd.prog 5 #[.string s] w fun e w' => e = .returned (.bool true) ∧ Below w.heap.size w w' := by
  obtain ⟨a, he⟩ := hE
  have hs9 : s.size ≤ 9223372036854775807 := hs
  clear hs
  have m1 : 0 ≤ min (s.size : Int) 1100 := by omega
  have m2 : min (s.size : Int) 1100 ≤ (s.size : Int) := by omega
  go_enter Tryd.func5, Tryd.ntmps5
  go_wp2_with fail
  refine (sane_any a _ he).mono ?_
  rintro e w1 ⟨rfl, hb0⟩
  replace he := he.below hb0 he.2
  go_wp2_with fail
  have hS : (s.extract 0 (min (s.size : Int) 1100).toNat).size ≤ 1100 := by rw [ByteArray.size_extract]; omega
  generalize s.extract 0 (min (s.size : Int) 1100).toNat = S at *
  refine (decode_any S (by omega) a _ he).mono ?_
  rintro e w2 ⟨rfl, hb⟩
  replace he := he.below hb he.2
  replace hb0 := below_val hb0 hb0.size hb
  clear hb m1 m2 hs9
  by_cases hd : decB S.data.toList = true
  · rw [decRes_yes hd]
    obtain ⟨hen, hok⟩ := dec_canon hd
    have hX : (S.extract 7 (7 + fld3 S.data.toList)).data.toList = (S.data.toList.drop 7).take (fld3 S.data.toList) := ext_toList S 7 (fld3 S.data.toList)
    have hF : decF S.data.toList = ⟨(fld0 S.data.toList : Nat), (fld1 S.data.toList : Nat), (fld2 S.data.toList : Nat), (S.extract 7 (7 + fld3 S.data.toList)).data.toList⟩ := by rw [hX]; rfl
    rw [hF] at hen hok
    have hxs : (S.extract 7 (7 + fld3 S.data.toList)).size ≤ 9223372036854775807 := by rw [ByteArray.size_extract]; omega
    generalize S.extract 7 (7 + fld3 S.data.toList) = X at *
    generalize fld0 S.data.toList = k0 at *
    generalize fld1 S.data.toList = k1 at *
    generalize fld2 S.data.toList = k2 at *
    clear hX hF hd
    have HEN := Lib.hid hen
    have HOK := Lib.hid hok
    clear hen hok
    go_wp2_with fail
    have hx := Box.new w2 k0 k1 k2 X 23
    have hb := new_below w2 (.cells #[.int .i64 (k0 : Int), .int .i64 (k1 : Int), .int .i64 (k2 : Int), .string X] 23)
    replace he := he.below hb he.2
    replace hb0 := below_val hb0 hb0.size hb
    clear hb
    generalize w2.alloc (.cells #[.int .i64 (k0 : Int), .int .i64 (k1 : Int), .int .i64 (k2 : Int), .string X] 23) = W2 at *
    generalize w2.heap.size = G at *
    refine (encode_yes k0 k1 k2 X HOK.out a _ he).mono ?_
    rintro e w3 ⟨rfl, hb⟩
    rw [ba_same HEN.out]
    replace hx := hx.below hb
    replace he := he.below hb he.2
    replace hb0 := below_val hb0 hb0.size hb
    clear hb
    obtain ⟨x0, x1, x2, x3, hl⟩ := hx
    go_wp2_with fail
    refine (valid_any k0 k1 k2 X hxs _).mono ?_
    rintro e w4 ⟨rfl, hb⟩
    rw [HOK.out]
    replace hb0 := below_val hb0 hb0.size hb
    clear hb
    go_wp2_with fail
    go_ret
    exact ⟨rfl, hb0⟩
  · have hd' : decB S.data.toList = false := by simpa using hd
    rw [decRes_no hd']
    go_wp2_with fail
    go_ret
    exact ⟨rfl, below_val hb0 hb0.size (new_below _ _)⟩
end Go.Proofs.YtldmkoicjpkdiaaDoor
