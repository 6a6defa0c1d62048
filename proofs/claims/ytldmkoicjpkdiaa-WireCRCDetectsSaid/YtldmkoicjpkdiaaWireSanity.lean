/- sanity and pick of the wire laws. -/
import Derived.Test.YtldmkoicjpkdiaaWireGet
import Derived.Test.YtldmkoicjpkdiaaWireCk
import Derived.Test.YtldmkoicjpkdiaaWireCrc32
namespace Go.Proofs.Ytldmkoicjpkdiaa
open Go.RowKit
def pickV (c n : Int) : Int := (if c < 0 then -(c + 1) else c) % n
theorem ret1i {a b : Int} (h : a = b) : Ending.returned (.int .i64 a) = .returned (.int .i64 b) := by rw [h]
set_option maxHeartbeats 400000 in
theorem pick_any (c n : Int) (w : World) (h1 : -9223372036854775808 ≤ c) (h2 : c ≤ 9223372036854775807) (hn : 1 ≤ n) (hn2 : n ≤ 9223372036854775807) :
    Calls Try.prog 9 #[.int .i64 c, .int .i64 n] w fun r w' => r = .returned (.int .i64 (pickV c n)) ∧ w = w' := by
  by_cases c1 : c < 0
  · have H := Lib.hid (show -((c + 1).tmod n) = pickV c n by unfold pickV; rw [if_pos c1, ← Int.neg_tmod, Int.tmod_eq_emod_of_nonneg (by omega)])
    go_enter Try.func9, Try.ntmps9
    go_wp2
    go_ret
    exact ⟨ret1i H.out, rfl⟩
  · have H := Lib.hid (show c % n = pickV c n by unfold pickV; rw [if_neg c1])
    go_enter Try.func9, Try.ntmps9
    go_wp2
    go_ret
    exact ⟨ret1i H.out, rfl⟩
theorem pickV_bd (c n : Int) (hn : 1 ≤ n) : 0 ≤ pickV c n ∧ pickV c n < n := by
  unfold pickV; exact ⟨Int.emod_nonneg _ (by omega), Int.emod_lt_of_pos _ (by omega)⟩
theorem below_tr {w w1 w2 : World} (h : Below w.heap.size w w1) (k : Below w1.heap.size w1 w2) : Below w.heap.size w w2 := h.trans (k.mono h.size)
set_option maxRecDepth 100000 in
set_option maxHeartbeats 1000000 in
theorem sanity_any (w : World) :
    Calls Try.prog 8 #[] w fun r w' => r = .returned (.bool true) ∧ Below w.heap.size w w' := by
  go_enter Try.func8, Try.ntmps8
  go_wp2_with fail
  refine (put_any 258 2 (by omega) _).mono ?_
  rintro r w1 ⟨rfl, b1⟩
  rw [show putS 258 2 = ⟨#[1, 2]⟩ by kernel_rfl, show putE 258 2 = 0 by kernel_rfl]
  go_wp2_with fail
  rw [show ({ data := #[97] } : ByteArray) ++ { data := #[1, 2] } = { data := #[97, 1, 2] } by kernel_rfl]
  refine (get_any ⟨#[97, 1, 2]⟩ (by decide) 1 2 _).mono ?_
  rintro r w2 ⟨rfl, b2⟩
  rw [show getV ({ data := #[97, 1, 2] } : ByteArray).data.toList 1 2 = 258 by kernel_rfl, show getE ({ data := #[97, 1, 2] } : ByteArray).data.toList 1 2 = 0 by kernel_rfl]
  go_wp2_with fail
  refine (put_any 65536 2 (by omega) _).mono ?_
  rintro r w3 ⟨rfl, b3⟩
  rw [show putS 65536 2 = ⟨#[]⟩ by kernel_rfl, show putE 65536 2 = 10 by kernel_rfl]
  go_wp2_with fail
  refine (get_any ⟨#[1, 2]⟩ (by decide) 1 2 _).mono ?_
  rintro r w4 ⟨rfl, b4⟩
  rw [show getV ({ data := #[1, 2] } : ByteArray).data.toList 1 2 = 0 by kernel_rfl, show getE ({ data := #[1, 2] } : ByteArray).data.toList 1 2 = 10 by kernel_rfl]
  go_wp2_with fail
  refine (put_any 1 0 (by omega) _).mono ?_
  rintro r w5 ⟨rfl, b5⟩
  rw [show putS 1 0 = ⟨#[]⟩ by kernel_rfl, show putE 1 0 = 10 by kernel_rfl]
  have hB := below_tr b1 (below_tr b2 (below_tr b3 (below_tr b4 b5)))
  clear b1 b2 b3 b4 b5
  go_wp2_with fail
  refine (checksum_any ⟨#[0, 1, 242, 3, 244, 245, 246, 247]⟩ (by decide) _).mono ?_
  rintro r w6 ⟨rfl, b6⟩
  rw [show cksum ({ data := #[0, 1, 242, 3, 244, 245, 246, 247] } : ByteArray).data.toList = 8717 by kernel_rfl]
  go_wp2_with fail
  refine (crc32_any ⟨#[49, 50, 51, 52, 53, 54, 55, 56, 57]⟩ _ (by decide)).mono ?_
  rintro r w7 ⟨rfl, b7⟩
  rw [show crc ({ data := #[49, 50, 51, 52, 53, 54, 55, 56, 57] } : ByteArray).data.toList = 3421780262 by kernel_rfl]
  have hB2 := below_tr hB (below_tr b6 b7)
  clear hB b6 b7
  go_wp2_with fail
  go_ret
  exact ⟨rfl, hB2⟩
end Go.Proofs.Ytldmkoicjpkdiaa
