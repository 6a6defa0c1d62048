/- sanity of the statements on recvbuf: the example of the chapter. -/
import Derived.Test.YtfeppkgcimgkeaaRbBlk
import Derived.Test.YtfeppkgcimgkeaaRbNil
import Derived.Test.YtfeppkgcimgkeaaRbCont
namespace Go.Proofs.Ytfeppkgcimgkeaa
open Go.RowKit Go.Shelf
def sb1 : Bx := (bx0 8).put 2 [99, 100]
def sb2 : Bx := sb1.put 0 [97, 98, 88]
def sb3 : Bx := sb2.take 9
def sb4 : Bx := sb3.put 10 [120, 121, 122]
theorem sb0_n : (bx0 8).putN 2 2 = 2 := by decide +kernel
theorem sb1_nx : sb1.nx = 0 := by decide +kernel
theorem sb1_rep : sb1.rep = [(2, 4)] := by decide +kernel
theorem sb1_n : sb1.putN 0 3 = 2 := by decide +kernel
theorem sb2_nx : sb2.nx = 4 := by decide +kernel
theorem sb2_len : sb2.nx - sb2.rd = 4 := by decide +kernel
theorem sb2_room : sb2.rd + sb2.ring.length - sb2.nx = 4 := by decide +kernel
theorem sb2_take : sb2.takeS 9 = [97, 98, 99, 100] := by decide +kernel
theorem sb3_n : sb3.putN 10 3 = 2 := by decide +kernel
theorem sb0_ok : (bx0 8).Ok := bx0_ok 8 (by omega) (by omega)
theorem sb1_ok : sb1.Ok := (Bx.put_spec sb0_ok _ (by omega) (by omega)).1
theorem sb2_ok : sb2.Ok := (Bx.put_spec sb1_ok _ (by omega) (by omega)).1
theorem sb3_ok : sb3.Ok := Bx.Ok.take sb2_ok 9 (by decide +kernel)
theorem sb4_ok : sb4.Ok := (Bx.put_spec sb3_ok _ (by omega) (by omega)).1
theorem putE_2 : putE 2 = 0 := by decide
theorem putE_0 : putE 0 = 0 := by decide
theorem putE_10 : putE 10 = 0 := by decide
theorem putE_m : putE (-1) = 130 := by decide
/-- Where a span of one's own lies. -/
def SpIn (bb off : Nat) (x : Sp) (B R : Nat) (w : World) : Prop := w.cell? ⟨bb, off, none⟩ = some (.int .i64 x.1) ∧ w.cell? ⟨bb, off + 1, none⟩ = some (.int .i64 x.2) ∧ bb ≠ B ∧ bb ≠ R
theorem SpIn.chg2 {bb off : Nat} {x : Sp} {B R : Nat} {w w' : World} (h : SpIn bb off x B R w) (hc : Chg2 B R w w') : SpIn bb off x B R w' := by
  obtain ⟨h0, h1, h2, h3⟩ := h
  have hb := hc.block bb (block_lt_of_cell h0) h2 h3
  exact ⟨(World.cell?_of_block (a := ⟨bb, _, none⟩) hb).trans h0, (World.cell?_of_block (a := ⟨bb, _, none⟩) hb).trans h1, h2, h3⟩
theorem SpIn.below {bb off : Nat} {x : Sp} {B R : Nat} {w w' : World} (h : SpIn bb off x B R w) (hb : Below w.heap.size w w') : SpIn bb off x B R w' := h.chg2 (Chg2.of_below hb)
set_option maxRecDepth 100000 in
set_option maxHeartbeats 1000000 in
theorem sanity_any (w : World) : Calls Try.prog 18 #[] w fun e w' => e = .returned (.bool true) ∧ Below w.heap.size w w' := by
  go_enter Try.func18, Try.ntmps18
  go_wp2_with fail
  refine (new_box 8 (by omega) (by omega) _).mono ?_
  rintro e w1 ⟨B, R, rfl, hbox, hb, hB, hR⟩
  obtain ⟨lb, hlb⟩ : ∃ lb, lb = w1.heap.size := ⟨_, rfl⟩
  have hl1 : lb ≤ w1.heap.size := by omega
  have HX := Lib.hid (hbox lb)
  have HB := Lib.hid hb
  have hz := hb.size
  clear hbox hb hlb
  go_wp2_with fail
  obtain ⟨s, hs⟩ : ∃ s : ByteArray, s = { data := #[99, 100] } := ⟨_, rfl⟩
  rw [← hs]
  have hs1 : s.size = 2 := by rw [hs]; rfl
  have HS := Lib.hid (show s.data.toList = [99, 100] by rw [hs])
  clear hs
  refine (put_any B R lb (bx0 8) 2 s w1 HX.out sb0_ok hl1 (by omega)).mono ?_
  rintro e w2 ⟨rfl, hx, hc⟩
  rw [hs1, sb0_n, putE_2]
  rw [HS.out] at hx
  replace HB := Lib.hid (HB.out.trans (hc.below hB hR HB.out.size))
  replace hl1 := Nat.le_trans hl1 hc.size
  replace HX := Lib.hid (show BoxAt B R lb sb1 w2 from hx)
  clear hx hc HS hs1 s
  go_wp2_with fail
  refine (next_any B R lb sb1 _ HX.out).mono ?_
  rintro e w' ⟨rfl, rfl⟩
  rw [sb1_nx]
  go_wp2_with fail
  refine (blocks_any B R lb sb1 w2 HX.out sb1_ok).mono ?_
  rintro e w3 ⟨bd, cap, rfl, hsp, hcap, hfr, hbb⟩
  rw [sb1_rep] at hsp hcap ⊢
  obtain ⟨bb, off, rfl, hbl, hc⟩ := hsp.cells (by show 0 < 1; omega)
  obtain ⟨c0, c1⟩ := hc 0 (by show 0 < 1; omega)
  obtain ⟨d0, d1⟩ := (show off + 0 * 2 = off ∧ off + 0 * 2 + 1 = off + 1 from ⟨by omega, by omega⟩)
  rw [d0] at c0
  rw [d1] at c1
  have hf0 := (hfr _ rfl).1
  have hlx := HX.out.lt
  have HC := Lib.hid (show SpIn bb off (2, 4) B R w3 from ⟨c0, c1, by dsimp only at hf0; omega, by dsimp only at hf0; omega⟩)
  replace HB := Lib.hid (HB.out.trans (hbb.mono HB.out.size))
  replace HX := Lib.hid (HX.out.below hbb)
  replace hl1 := Nat.le_trans hl1 hbb.size
  clear hsp hcap hfr hbb hc c0 c1 d0 d1 hf0 hbl hlx
  go_wp2_with fail
  obtain ⟨s, hs⟩ : ∃ s : ByteArray, s = { data := #[97, 98, 88] } := ⟨_, rfl⟩
  rw [← hs]
  have hs1 : s.size = 3 := by rw [hs]; rfl
  have HS := Lib.hid (show s.data.toList = [97, 98, 88] by rw [hs])
  clear hs
  refine (put_any B R lb sb1 0 s w3 HX.out sb1_ok hl1 (by omega)).mono ?_
  rintro e w4 ⟨rfl, hx, hc⟩
  rw [hs1, sb1_n, putE_0]
  rw [HS.out] at hx
  replace HB := Lib.hid (HB.out.trans (hc.below hB hR HB.out.size))
  replace HC := Lib.hid (HC.out.chg2 hc)
  replace hl1 := Nat.le_trans hl1 hc.size
  replace HX := Lib.hid (show BoxAt B R lb sb2 w4 from hx)
  clear hx hc HS hs1 s
  go_wp2_with fail
  refine (next_any B R lb sb2 _ HX.out).mono ?_
  rintro e w' ⟨rfl, rfl⟩
  rw [sb2_nx]
  go_wp2_with fail
  refine (len_any B R lb sb2 _ HX.out sb2_ok).mono ?_
  rintro e w' ⟨rfl, rfl⟩
  rw [sb2_len]
  replace HB := Lib.hid (HB.out.drew)
  replace HX := Lib.hid (HX.out.drew)
  replace HC := Lib.hid (HC.out.below (Below.refl _ _).drew)
  go_wp2_with fail
  refine (room_any B R lb sb2 _ HX.out sb2_ok).mono ?_
  rintro e w' ⟨rfl, rfl⟩
  rw [sb2_room]
  replace HB := Lib.hid (HB.out.drew.drew)
  replace HX := Lib.hid (HX.out.drew.drew)
  replace HC := Lib.hid (HC.out.below (Below.refl _ _).drew.drew)
  go_wp2_with fail
  refine (take_any B R lb sb2 9 _ HX.out sb2_ok).mono ?_
  rintro e w5 ⟨rfl, hx, hc⟩
  rw [sb2_take]
  replace HC := Lib.hid (HC.out.chg2 (Chg2.of1 hc))
  replace HB := Lib.hid (HB.out.trans ((Chg2.of1 hc).below hB hR (by have := HB.out.size; simpa using this)))
  replace hl1 := Nat.le_trans hl1 (by have := hc.size; simpa using this)
  replace HX := Lib.hid (show BoxAt B R lb sb3 w5 from hx)
  clear hx hc
  go_wp2_with fail
  obtain ⟨s, hs⟩ : ∃ s : ByteArray, s = { data := #[120, 121, 122] } := ⟨_, rfl⟩
  rw [← hs]
  have hs1 : s.size = 3 := by rw [hs]; rfl
  have HS := Lib.hid (show s.data.toList = [120, 121, 122] by rw [hs])
  clear hs
  refine (put_any B R lb sb3 10 s w5 HX.out sb3_ok hl1 (by omega)).mono ?_
  rintro e w6 ⟨rfl, hx, hc⟩
  rw [hs1, sb3_n, putE_10]
  rw [HS.out] at hx
  replace HB := Lib.hid (HB.out.trans (hc.below hB hR HB.out.size))
  replace HC := Lib.hid (HC.out.chg2 hc)
  replace hl1 := Nat.le_trans hl1 hc.size
  replace HX := Lib.hid (show BoxAt B R lb sb4 w6 from hx)
  clear hx hc HS hs1 s
  go_wp2_with fail
  obtain ⟨s, hs⟩ : ∃ s : ByteArray, s = { data := #[97] } := ⟨_, rfl⟩
  rw [← hs]
  have hs1 : s.size = 1 := by rw [hs]; rfl
  have HS := Lib.hid (show s.data.toList = [97] by rw [hs])
  clear hs
  refine (put_any B R lb sb4 (-1) s w6 HX.out sb4_ok hl1 (by omega)).mono ?_
  rintro e w7 ⟨rfl, hx, hc⟩
  rw [hs1, putE_m]
  rw [HS.out] at hx
  replace HB := Lib.hid (HB.out.trans (hc.below hB hR HB.out.size))
  replace HC := Lib.hid (HC.out.chg2 hc)
  replace hl1 := Nat.le_trans hl1 hc.size
  replace HX := Lib.hid (show BoxAt B R lb (sb4.put (-1) [97]) w7 from hx)
  clear hx hc HS hs1 s
  go_wp2_with fail
  refine (new_bad 0 (by omega) _).mono ?_
  rintro e w' ⟨rfl, rfl⟩
  obtain ⟨c0, c1, -, -⟩ := HC.out
  clear HC HX
  go_wp2_with fail
  go_ret
  exact ⟨rfl, HB.out⟩
end Go.Proofs.Ytfeppkgcimgkeaa
