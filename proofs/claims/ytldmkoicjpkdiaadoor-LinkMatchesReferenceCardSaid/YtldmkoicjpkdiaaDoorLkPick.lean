/- pick and Frame of the link statements; a string that is cut. -/
import Derived.Test.YtldmkoicjpkdiaaDoorLkSane
import Derived.Deep.RegionHeld3
namespace Go.Proofs.YtldmkoicjpkdiaaDoor
open Go.RowKit
def pickV (c n : Int) : Int := (if c < 0 then -(c + 1) else c) % n
set_option maxHeartbeats 400000 in
theorem pick_any (c n : Int) (w : World) (h1 : -9223372036854775808 ≤ c) (h2 : c ≤ 9223372036854775807) (hn : 1 ≤ n) (hn2 : n ≤ 9223372036854775807) :
    Calls Tryd.prog 20 #[.int .i64 c, .int .i64 n] w fun r w' => r = .returned (.int .i64 (pickV c n)) ∧ w = w' := by
  by_cases c1 : c < 0
  · have H := Lib.hid (show -((c + 1).tmod n) = pickV c n by unfold pickV; rw [if_pos c1, ← Int.neg_tmod, Int.tmod_eq_emod_of_nonneg (by omega)])
    go_enter Tryd.func20, Tryd.ntmps20
    go_wp2
    go_ret
    exact ⟨ret_i H.out, rfl⟩
  · have H := Lib.hid (show c % n = pickV c n by unfold pickV; rw [if_neg c1])
    go_enter Tryd.func20, Tryd.ntmps20
    go_wp2
    go_ret
    exact ⟨ret_i H.out, rfl⟩
theorem pickV_bd (c n : Int) (hn : 1 ≤ n) : 0 ≤ pickV c n ∧ pickV c n < n := by
  unfold pickV; exact ⟨Int.emod_nonneg _ (by omega), Int.emod_lt_of_pos _ (by omega)⟩
/-- The valid frame that the statements make of any. -/
def frT (t : Int) : Int := 1 + pickV t 65535
def frF (f : Int) : Int := 1 + pickV f 65534
def frK (k : Int) : Int := 1 + pickV k 2
def cutS (s : ByteArray) (n : Int) : ByteArray := s.extract 0 (min (s.size : Int) n).toNat
theorem cutS_size (s : ByteArray) (n : Nat) : (cutS s n).size ≤ n := by
  unfold cutS; rw [ByteArray.size_extract]; omega
set_option maxHeartbeats 1000000 in
theorem frame_any (t f k : Int) (s : ByteArray) (hs : s.size ≤ 9223372036854775807) (w : World) (ht1 : -9223372036854775808 ≤ t) (ht2 : t ≤ 9223372036854775807) (hf1 : -9223372036854775808 ≤ f) (hf2 : f ≤ 9223372036854775807) (hk1 : -9223372036854775808 ≤ k) (hk2 : k ≤ 9223372036854775807) :
    Calls Tryd.prog 19 #[.agg #[.int .i64 t, .int .i64 f, .int .i64 k, .string s]] w fun r w' => r = .returned (.agg #[.int .i64 (frT t), .int .i64 (frF f), .int .i64 (frK k), .string (cutS s 1000)]) ∧ Below w.heap.size w w' := by
  obtain ⟨pt1, pt2⟩ := pickV_bd t 65535 (by omega)
  obtain ⟨pf1, pf2⟩ := pickV_bd f 65534 (by omega)
  obtain ⟨pk1, pk2⟩ := pickV_bd k 2 (by omega)
  have wt : IntKind.i64.wrap (1 + pickV t 65535) = 1 + pickV t 65535 := IntWalk.i64_in _ (by omega)
  have wf : IntKind.i64.wrap (1 + pickV f 65534) = 1 + pickV f 65534 := IntWalk.i64_in _ (by omega)
  have wk : IntKind.i64.wrap (1 + pickV k 2) = 1 + pickV k 2 := IntWalk.i64_in _ (by omega)
  have m1 : 0 ≤ min (s.size : Int) 1000 := by omega
  have m2 : min (s.size : Int) 1000 ≤ (s.size : Int) := by omega
  go_enter Tryd.func19, Tryd.ntmps19
  go_wp2_with fail
  have hb0 := (Below.refl w.heap.size w).alloc (Nat.le_refl _) (.cells #[.int .i64 t, .int .i64 f, .int .i64 k, .string s] 23)
  go_region_held3 (fun w' => w'.cell? ⟨w.heap.size, 0, none⟩ = some (.int .i64 t) ∧ w'.cell? ⟨w.heap.size, 1, none⟩ = some (.int .i64 f) ∧ w'.cell? ⟨w.heap.size, 2, none⟩ = some (.int .i64 k) ∧ w'.cell? ⟨w.heap.size, 3, none⟩ = some (.string s)) (go_keep) (first | (go_at_call 20; first | (with_reducible refine (pick_any t 65535 _ ht1 ht2 (by omega) (by omega)).mono ?_; rintro e w1 ⟨rfl, rfl⟩) | (with_reducible refine (pick_any f 65534 _ hf1 hf2 (by omega) (by omega)).mono ?_; rintro e w1 ⟨rfl, rfl⟩) | (with_reducible refine (pick_any k 2 _ hk1 hk2 (by omega) (by omega)).mono ?_; rintro e w1 ⟨rfl, rfl⟩)))
  all_goals
    go_wp2_with fail
    have y : ∀ i v, (#[.int .i64 (1 + pickV t 65535), .int .i64 (1 + pickV f 65534), .int .i64 (1 + pickV k 2), .string (s.extract 0 (min (s.size : Int) 1000).toNat)] : Array Value)[i]? = some v → (((w.alloc (.cells #[.int .i64 t, .int .i64 f, .int .i64 k, .string s] 23)).alloc (.cells #[.int .i64 (1 + pickV t 65535), .int .i64 (1 + pickV f 65534), .int .i64 (1 + pickV k 2), .string (s.extract 0 (min (s.size : Int) 1000).toNat)] 23)).drew).cell? ⟨w.heap.size + 1, i, none⟩ = some v := by
      intro i v hv
      show ((w.alloc _).alloc _).cell? _ = _
      rw [show w.heap.size + 1 = (w.alloc (.cells #[.int .i64 t, .int .i64 f, .int .i64 k, .string s] 23)).heap.size by simp, cell_of_row _ _ _ _ _ _ (heap_alloc_new _ _)]
      exact hv
    have y0 := y 0 _ rfl
    have y1 := y 1 _ rfl
    have y2 := y 2 _ rfl
    have y3 := y 3 _ rfl
    refine bodyPost_ret (v := .agg #[.int .i64 (1 + pickV t 65535), .int .i64 (1 + pickV f 65534), .int .i64 (1 + pickV k 2), .string (s.extract 0 (min (s.size : Int) 1000).toNat)]) (by simp [results, Tryd.results19, go_sem, y0, y1, y2, y3]) rfl ?_
    exact ⟨rfl, (hb0.alloc (by simp) _).drew⟩
end Go.Proofs.YtldmkoicjpkdiaaDoor
