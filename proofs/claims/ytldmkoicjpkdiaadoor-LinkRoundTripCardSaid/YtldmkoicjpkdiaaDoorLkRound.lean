/- LinkRoundTrip: its walk. -/
import Derived.Test.YtldmkoicjpkdiaaDoorLkFr
namespace Go.Proofs.YtldmkoicjpkdiaaDoor
open Go.RowKit
set_option maxRecDepth 100000 in
set_option maxHeartbeats 4000000 in
theorem walk_LinkRoundTrip (w : World) (t f k : Int) (s : ByteArray) (hwf : WfF t f k s) (hE : ∃ a, ErrS a w) :
    Calls Tryd.prog 4 #[.agg #[.int .i64 t, .int .i64 f, .int .i64 k, .string s]] w fun e w' => e = .returned (.bool true) ∧ Below w.heap.size w w' := by
  obtain ⟨a, he⟩ := hE
  have hb0 := Below.refl w.heap.size w
  go_enter Tryd.func4, Tryd.ntmps4
  go_wp2_with fail
  have x := Box.new w t f k s 23
  have hb := new_below w (.cells #[.int .i64 t, .int .i64 f, .int .i64 k, .string s] 23)
  replace he := he.below hb he.2
  replace hb0 := below_val hb0 hb0.size hb
  clear hb
  generalize w.alloc (.cells #[.int .i64 t, .int .i64 f, .int .i64 k, .string s] 23) = V1 at *
  generalize w.heap.size = G1 at x ⊢
  refine (sane_any a _ he).mono ?_
  rintro e W2 ⟨rfl, hb⟩
  replace he := he.below hb he.2
  replace x := x.below hb
  replace hb0 := below_val hb0 hb0.size hb
  clear hb
  obtain ⟨x0, x1, x2, x3, xl⟩ := x
  go_wp2_with fail
  have x := Box.mk x0 x1 x2 x3 xl
  clear x0 x1 x2 x3 xl
  refine (frame_some t f k s hwf _).mono ?_
  rintro e W3 ⟨T, F, K, S, rfl, hok, hS, ⟨hF1, hF2⟩, hb⟩
  have HOK := Lib.hid hok
  clear hok
  replace he := he.below hb he.2
  replace x := x.below hb
  replace hb0 := below_val hb0 hb0.size hb
  clear hb
  obtain ⟨x0, x1, x2, x3, xl⟩ := x
  go_wp2_with fail
  have x := Box.mk x0 x1 x2 x3 xl
  clear x0 x1 x2 x3 xl
  have y := Box.new W3 T F K S 23
  have hb := new_below W3 (.cells #[.int .i64 T, .int .i64 F, .int .i64 K, .string S] 23)
  replace he := he.below hb he.2
  replace x := x.below hb
  replace hb0 := below_val hb0 hb0.size hb
  clear hb
  generalize W3.alloc (.cells #[.int .i64 T, .int .i64 F, .int .i64 K, .string S] 23) = V4 at *
  generalize W3.heap.size = G4 at y ⊢
  obtain ⟨x0, x1, x2, x3, xl⟩ := x
  obtain ⟨y0, y1, y2, y3, yl⟩ := y
  go_wp2_with fail
  have x := Box.mk x0 x1 x2 x3 xl
  clear x0 x1 x2 x3 xl
  have y := Box.mk y0 y1 y2 y3 yl
  clear y0 y1 y2 y3 yl
  refine (encode_some T F K S HOK.out a _ he).mono ?_
  rintro e W5 ⟨E, rfl, hEs, HEE, HED, he, hb⟩
  replace x := x.below hb
  replace y := y.below hb
  replace hb0 := below_val hb0 hb0.size hb
  clear hb
  obtain ⟨x0, x1, x2, x3, xl⟩ := x
  obtain ⟨y0, y1, y2, y3, yl⟩ := y
  go_wp2_with fail
  have x := Box.mk x0 x1 x2 x3 xl
  clear x0 x1 x2 x3 xl
  have y := Box.mk y0 y1 y2 y3 yl
  clear y0 y1 y2 y3 yl
  refine (decode_err E (by omega) a _ he).mono ?_
  rintro e W6 ⟨rfl, he, hb⟩
  rw [HED.out]
  replace x := x.below hb
  replace y := y.below hb
  replace hb0 := below_val hb0 hb0.size hb
  clear hb
  obtain ⟨x0, x1, x2, x3, xl⟩ := x
  obtain ⟨y0, y1, y2, y3, yl⟩ := y
  go_wp2_with fail
  have x := Box.mk x0 x1 x2 x3 xl
  clear x0 x1 x2 x3 xl
  have y := Box.mk y0 y1 y2 y3 yl
  clear y0 y1 y2 y3 yl
  have z := Box.new W6 T F K S 23
  have hb := new_below W6 (.cells #[.int .i64 T, .int .i64 F, .int .i64 K, .string S] 23)
  replace he := he.below hb he.2
  replace x := x.below hb
  replace y := y.below hb
  replace hb0 := below_val hb0 hb0.size hb
  clear hb
  generalize W6.alloc (.cells #[.int .i64 T, .int .i64 F, .int .i64 K, .string S] 23) = V7 at *
  generalize W6.heap.size = G7 at z ⊢
  obtain ⟨x0, x1, x2, x3, xl⟩ := x
  obtain ⟨y0, y1, y2, y3, yl⟩ := y
  obtain ⟨z0, z1, z2, z3, zl⟩ := z
  go_wp2_with fail
  have x := Box.mk x0 x1 x2 x3 xl
  clear x0 x1 x2 x3 xl
  have y := Box.mk y0 y1 y2 y3 yl
  clear y0 y1 y2 y3 yl
  have z := Box.mk z0 z1 z2 z3 zl
  clear z0 z1 z2 z3 zl
  refine (valid_any T F K S (by omega) _).mono ?_
  rintro e W8 ⟨rfl, hb⟩
  rw [HOK.out]
  replace he := he.below hb he.2
  replace x := x.below hb
  replace y := y.below hb
  replace z := z.below hb
  replace hb0 := below_val hb0 hb0.size hb
  clear hb
  obtain ⟨x0, x1, x2, x3, xl⟩ := x
  obtain ⟨y0, y1, y2, y3, yl⟩ := y
  obtain ⟨z0, z1, z2, z3, zl⟩ := z
  go_wp2_with fail
  have x := Box.mk x0 x1 x2 x3 xl
  clear x0 x1 x2 x3 xl
  have y := Box.mk y0 y1 y2 y3 yl
  clear y0 y1 y2 y3 yl
  have z := Box.mk z0 z1 z2 z3 zl
  clear z0 z1 z2 z3 zl
  go_ret
  exact ⟨rfl, hb0⟩
end Go.Proofs.YtldmkoicjpkdiaaDoor
