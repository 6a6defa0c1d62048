/- LinkChecksumLayout: its walk. -/
import Derived.Test.YtldmkoicjpkdiaaDoorLkFr2
namespace Go.Proofs.YtldmkoicjpkdiaaDoor
open Go.RowKit
set_option maxRecDepth 100000 in
set_option maxHeartbeats 4000000 in
theorem walk_LinkChecksumLayout (w : World) (t f k : Int) (s : ByteArray) (hwf : WfF t f k s) (hE : ∃ a, ErrS a w) :
    Calls Tryd.prog 8 #[.agg #[.int .i64 t, .int .i64 f, .int .i64 k, .string s]] w fun e w' => e = .returned (.bool true) ∧ Below w.heap.size w w' := by
  obtain ⟨a, he⟩ := hE
  have hb0 := Below.refl w.heap.size w
  go_enter Tryd.func8, Tryd.ntmps8
  go_wp2_with fail
  have x := Box.new w t f k s 23
  have hb := new_below w (.cells #[.int .i64 t, .int .i64 f, .int .i64 k, .string s] 23)
  replace he := he.below hb he.2
  replace hb0 := below_val hb0 hb0.size hb
  clear hb
  generalize w.alloc (.cells #[.int .i64 t, .int .i64 f, .int .i64 k, .string s] 23) = V1 at *
  generalize w.heap.size = G1 at x ⊢
  refine (sane_any a _ he).mono ?_
  rintro e W2 ⟨rfl, hb⟩
  replace he := he.below hb he.2
  replace x := x.below hb
  replace hb0 := below_val hb0 hb0.size hb
  clear hb
  obtain ⟨x0, x1, x2, x3, xl⟩ := x
  go_wp2_with fail
  have x := Box.mk x0 x1 x2 x3 xl
  clear x0 x1 x2 x3 xl
  refine (frame_some t f k s hwf _).mono ?_
  rintro e W3 ⟨T, F, K, S, rfl, hok, hS, ⟨hF1, hF2⟩, hb⟩
  have HOK := Lib.hid hok
  clear hok hF1 hF2
  replace he := he.below hb he.2
  replace x := x.below hb
  replace hb0 := below_val hb0 hb0.size hb
  clear hb
  obtain ⟨x0, x1, x2, x3, xl⟩ := x
  go_wp2_with fail
  have x := Box.mk x0 x1 x2 x3 xl
  clear x0 x1 x2 x3 xl
  have y := Box.new W3 T F K S 23
  have hb := new_below W3 (.cells #[.int .i64 T, .int .i64 F, .int .i64 K, .string S] 23)
  replace he := he.below hb he.2
  replace x := x.below hb
  replace hb0 := below_val hb0 hb0.size hb
  clear hb
  generalize W3.alloc (.cells #[.int .i64 T, .int .i64 F, .int .i64 K, .string S] 23) = V4 at *
  generalize W3.heap.size = G4 at y ⊢
  obtain ⟨x0, x1, x2, x3, xl⟩ := x
  obtain ⟨y0, y1, y2, y3, yl⟩ := y
  go_wp2_with fail
  have x := Box.mk x0 x1 x2 x3 xl
  clear x0 x1 x2 x3 xl
  have y := Box.mk y0 y1 y2 y3 yl
  clear y0 y1 y2 y3 yl
  refine (encode_some T F K S HOK.out a _ he).mono ?_
  rintro e W5 ⟨E, rfl, hEs, HEE, HED, he, hb⟩
  replace x := x.below hb
  replace y := y.below hb
  replace hb0 := below_val hb0 hb0.size hb
  clear hb
  have hE11 : ¬ (E.size : Int) < 11 := by omega
  obtain ⟨x0, x1, x2, x3, xl⟩ := x
  obtain ⟨y0, y1, y2, y3, yl⟩ := y
  go_wp2_with fail
  have x := Box.mk x0 x1 x2 x3 xl
  clear x0 x1 x2 x3 xl
  have y := Box.mk y0 y1 y2 y3 yl
  clear y0 y1 y2 y3 yl
  obtain ⟨p1, p2, p3, p4, p5⟩ := enc_parts HOK.out HEE.out
  refine (get_any E (by omega) (11 + (S.size : Int) - 4) 4 _).mono ?_
  rintro e W6 ⟨rfl, hb⟩
  rw [p1, p2]
  replace he := he.below hb he.2
  replace x := x.below hb
  replace y := y.below hb
  replace hb0 := below_val hb0 hb0.size hb
  clear hb
  obtain ⟨x0, x1, x2, x3, xl⟩ := x
  obtain ⟨y0, y1, y2, y3, yl⟩ := y
  go_wp2_with fail
  have x := Box.mk x0 x1 x2 x3 xl
  clear x0 x1 x2 x3 xl
  have y := Box.mk y0 y1 y2 y3 yl
  clear y0 y1 y2 y3 yl
  refine (get_any E (by omega) 5 2 _).mono ?_
  rintro e W7 ⟨rfl, hb⟩
  rw [p3, p4]
  replace he := he.below hb he.2
  replace x := x.below hb
  replace y := y.below hb
  replace hb0 := below_val hb0 hb0.size hb
  clear hb
  obtain ⟨y0, y1, y2, y3, yl⟩ := y
  clear p1 p2 p3 p4
  have P5 := Lib.hid p5
  clear p5
  have g1 : (E.extract 0 (7 + S.size)).size ≤ maxLen := by rw [ByteArray.size_extract]; unfold maxLen; omega
  have wS : IntKind.i64.wrap (11 + (S.size : Int) - 4) = 11 + (S.size : Int) - 4 := IntWalk.i64_in _ (by omega)
  have n1 : 0 ≤ 11 + (S.size : Int) - 4 := by omega
  have n4 : 4 ≤ 11 + (S.size : Int) := by omega
  have n2 : 11 + (S.size : Int) - 4 ≤ 11 + (S.size : Int) := by omega
  have n3 : 7 ≤ 11 + (S.size : Int) - 4 := by omega
  have tS : (11 + (S.size : Int) - 4).toNat = 7 + S.size := by omega
  go_wp2_with fail
  go_region_held3 (fun w' => w'.cell? ⟨G4, 3, none⟩ = some (.string S)) (first | exact hq | go_keep) (first | (go_at_call 22; refine (crc32_any _ _ g1).mono ?_; rintro e w1 ⟨rfl, hb1⟩; have hq := (hb1.cell (p := ⟨G4, 3, none⟩) yl).trans y3))
  have hbq : ((E.extract 7 (7 + S.size)).toList == S.toList) = true := by rw [P5.out]; exact beq_self_eq_true _
  rw [hbq]
  clear hbq wS n1 n2 n3 n4 tS g1
  replace hb0 := below_val (hb0.drew) hb0.size hb1
  go_wp2_with fail
  go_ret
  exact ⟨rfl, hb0⟩
end Go.Proofs.YtldmkoicjpkdiaaDoor
