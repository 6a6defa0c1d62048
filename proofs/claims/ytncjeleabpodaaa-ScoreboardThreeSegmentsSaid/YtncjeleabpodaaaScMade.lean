/- Law 14's made. -/
import Derived.Test.YtncjeleabpodaaaScDo
import Derived.Deep.LoopGhost
namespace Go.Proofs.Ytncjeleabpodaaa
open Go.RowKit Go.Shelf
set_option maxRecDepth 100000 in
set_option maxHeartbeats 4000000 in
theorem made_any (w : World) (a : Option Addr) (len cap : Nat) (cs : Nat → Cl) (hrow : IsCalls w a len cs) :
    Calls Try.prog 22 #[.slice a len cap] w fun e w' => ∃ Bs Br lb s, e = .returned (.tuple #[.pointer (some ⟨Bs, 0, none⟩), .pointer (some ⟨Br, 0, none⟩), .bool true]) ∧ s.Ok ∧ s.next ≤ 1200 ∧ Bs < lb ∧ w.heap.size ≤ Bs ∧ ScAt Bs lb s w' ∧ Below w.heap.size w w' := by
  have hml := hrow.1
  unfold maxLen at hml
  have HROW := Lib.hid hrow
  clear hrow
  go_enter Try.func22, Try.ntmps22
  go_wp2_with fail
  refine (scnew_any _).mono ?_
  rintro e w1 ⟨rfl, hw⟩
  have hsn := (ScAt.new (lb := 0) hw).1
  have HSN := Lib.hid (fun lb W (hb : Below w1.heap.size w1 W) (h1 : w.heap.size < lb) (h2 : lb ≤ W.heap.size) => (ScAt.new (lb := lb) hw).2 W hb h1 h2)
  have hB1 : Below w.heap.size w w1 := by rw [hw]; exact (Below.refl _ w).alloc (Nat.le_refl _) _
  clear hw
  have HB1 := Lib.hid hB1
  clear hB1
  go_wp2_with fail
  have hb2 := rcBel w1 (.cells (rcCells sc0 none 0 none 0) 87)
  obtain ⟨lb, hlb⟩ : ∃ lb, lb = w1.heap.size + 1 := ⟨_, rfl⟩
  have hrc : RcAt w1.heap.size lb sc0 (w1.alloc (.cells (rcCells sc0 none 0 none 0) 87)) := ⟨by omega, by rw [World.size_alloc]; omega, none, 0, none, 0, heap_alloc_new _ _, LstAt.nil _ _, LstAt.nil _ _⟩
  have hsc : ScAt w.heap.size lb sc0 (w1.alloc (.cells (rcCells sc0 none 0 none 0) 87)) := HSN.out lb _ hb2 (by omega) (by rw [World.size_alloc]; omega)
  have HS := Lib.hid hsc
  have HR := Lib.hid hrc
  have HB := Lib.hid (HB1.out.trans (hb2.mono HB1.out.size))
  obtain ⟨Br, hBr⟩ : ∃ Br, Br = w1.heap.size := ⟨_, rfl⟩
  rw [← hBr] at HR hsn hlb ⊢
  have hrl : Br < lb := by omega
  have hne : w.heap.size ≠ Br := by omega
  have hsl : w.heap.size < lb := by omega
  clear hsc hrc hb2 hlb HSN HB1
  rw [show (Obj.cells #[.int .i64 0, .int .i64 0, .slice none 0 0, .slice none 0 0, .int .i64 0] 87) = .cells (rcCells sc0 none 0 none 0) 87 from rfl]
  generalize w1.alloc (.cells (rcCells sc0 none 0 none 0) 87) = w2 at HS HR HB ⊢
  clear hBr
  go_loopg [7, 8] 20 (fun g ov iv wr => ∃ (k : Nat) (s : Sc), iv = .int .i64 (k : Int) ∧ ov = .bool true ∧ g + k = 20 ∧ k ≤ len ∧ s.Ok ∧ s.next ≤ 60 * (k : Int) ∧ ScAt w.heap.size lb s wr ∧ RcAt Br lb s wr ∧ Below w.heap.size w wr)
  case atStart => exact ⟨0, sc0, rfl, rfl, rfl, Nat.zero_le _, sc0_ok, Int.le_refl _, HS.out, HR.out, HB.out⟩
  case round =>
    clear HS HR HB
    obtain ⟨k, s, rfl, rfl, hg, hkl, ok, hn, hs, hr, hb⟩ := hrel
    have HOK := Lib.hid ok
    have HS := Lib.hid hs
    have HR := Lib.hid hr
    have HB := Lib.hid hb
    have hws := hb.size
    clear ok hs hr hb
    by_cases hlt : k < len
    · by_cases hl2 : k < 20
      · obtain ⟨b, off, rfl, hbs, hcs⟩ := HROW.out.2 (by omega)
        have hC := (hcs k hlt).below HB.out hbs
        clear hcs
        generalize cs k = c at hC
        obtain ⟨c0, c1, c2, c3, c4, c5, c6, hI⟩ := hC
        have HI := Lib.hid hI
        clear hI
        have f1 : (k : Int) < (len : Int) := by omega
        have f2 : (k : Int) < 20 := by omega
        go_wp2_with fail
        clear c0 c1 c2 c3 c4 c5 c6
        have hbx := rcBel wr (.cells #[.int .i64 c.kind, .int .i64 c.n, .int .i64 c.a.1, .int .i64 c.a.2, .int .i64 c.b.1, .int .i64 c.b.2, .bool false] 89)
        replace HS := Lib.hid (HS.out.below hbx)
        replace HR := Lib.hid (HR.out.below hbx)
        replace HB := Lib.hid (HB.out.trans (hbx.mono hws))
        clear hbx
        refine (do_any w.heap.size w.heap.size Br lb s c _ HOK.out hne HB.out.size (Nat.le_refl _) (by omega) hsl hrl (by omega) HS.out HR.out HI.out).mono ?_
        rintro e w3 ⟨s', rfl, ok, hn', hs, hr, hb⟩
        replace HB := Lib.hid (HB.out.trans hb)
        have HS3 := Lib.hid hs
        have HR3 := Lib.hid hr
        have HOK3 := Lib.hid ok
        clear hs hr hb ok
        go_wp2_with fail
        go_roundg (gk - 1)
        case measure => omega
        case rel => exact ⟨k + 1, s', by go_num, rfl, by omega, by omega, HOK3.out, by omega, HS3.out, HR3.out, HB.out⟩
      · obtain rfl : k = 20 := by omega
        have f1 : (20 : Int) < (len : Int) := by omega
        go_wp2_with fail
        go_ret3
        exact ⟨w.heap.size, Br, lb, s, rfl, HOK.out, by omega, hsl, Nat.le_refl _, HS.out, HB.out⟩
    · obtain rfl : k = len := by omega
      go_wp2_with fail
      go_ret3
      exact ⟨w.heap.size, Br, lb, s, rfl, HOK.out, by omega, hsl, Nat.le_refl _, HS.out, HB.out⟩
end Go.Proofs.Ytncjeleabpodaaa
