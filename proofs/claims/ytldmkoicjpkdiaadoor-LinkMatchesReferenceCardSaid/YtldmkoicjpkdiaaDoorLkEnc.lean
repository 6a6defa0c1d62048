/- link.Encode. -/
import Derived.Test.YtldmkoicjpkdiaaDoorLkNum
import Derived.Test.YtldmkoicjpkdiaaDoorLkValid
import Derived.Deep.RegionWith
namespace Go.Proofs.YtldmkoicjpkdiaaDoor
open Go.RowKit
/-- errBroken, as it is laid. -/
def ErrS (a : Addr) (w : World) : Prop := w.cell? ⟨0, 0, none⟩ = some (.iface 91 (.pointer (some a))) ∧ 0 < w.heap.size
theorem ErrS.below {a : Addr} {w w' : World} {N : Nat} (h : ErrS a w) (hb : Below N w w') (hN : 0 < N) : ErrS a w' :=
  ⟨(hb.cell (p := ⟨0, 0, none⟩) hN).trans h.1, Nat.lt_of_lt_of_le h.2 hb.size⟩
theorem ErrS.drewN {a : Addr} {w : World} (h : ErrS a w) (n : Nat) : ErrS a (w.drewN n) := h
theorem below_val {N : Nat} {w0 w w' : World} (h : Below N w0 w) (hN : N ≤ w.heap.size) (c : Below w.heap.size w w') : Below N w0 w' := h.trans (c.mono hN)
theorem qs {P : Program} {f : FuncId} {args : Array Value} {w : World} {n : Nat} {v : Value}
    (h : Calls P f args (w.drewN n) fun e w' => e = .returned v ∧ w.drewN n = w') : Calls P f args (w.drewN n) fun e w'' => e = .returned v ∧ ∃ m, w'' = w.drewN m :=
  h.mono fun _ _ ⟨he, hm⟩ => ⟨he, n, hm.symm⟩
theorem ba_app (l : List UInt8) (s : ByteArray) : (⟨l.toArray⟩ : ByteArray) ++ s = ⟨(l ++ s.data.toList).toArray⟩ := by
  apply ByteArray.ext
  rw [ByteArray.data_append]
  simp
theorem ba_size (l : List UInt8) : (⟨l.toArray⟩ : ByteArray).size = l.length := rfl
theorem ba_list (l : List UInt8) : (⟨l.toArray⟩ : ByteArray).data.toList = l := rfl
set_option maxHeartbeats 2000000 in
theorem encode_no (t f k : Int) (s : ByteArray) (hs : s.size ≤ 9223372036854775807) (hv : Fr.okB ⟨t, f, k, s.data.toList⟩ = false) (w : World) :
    Calls Tryd.prog 11 #[.agg #[.int .i64 t, .int .i64 f, .int .i64 k, .string s]] w fun e w' => e = .returned (.tuple #[.string ⟨#[]⟩, .int .i64 40]) ∧ Below w.heap.size w w' := by
  have HV := Lib.hid hv
  clear hv
  go_enter Tryd.func11, Tryd.ntmps11
  go_wp2_with fail
  refine (valid_any t f k s hs _).mono ?_
  rintro e w1 ⟨rfl, hb1⟩
  rw [HV.out]
  go_wp2_with fail
  go_ret2
  exact ⟨rfl, below_val ((Below.refl _ _).alloc (Nat.le_refl _) _) (by simp) hb1⟩
def zs8 (t f k n : Int) : Nat → Int
  | 0 => t | 1 => 2 | 2 => f | 3 => 2 | 4 => k | 5 => 1 | 6 => n | _ => 2
theorem num_head (t f k : Int) (s : List UInt8) : numsL (zs8 t f k s.length) 4 = Fr.headL ⟨t, f, k, s⟩ := by
  show ((([] ++ be 2 t.toNat) ++ be 2 f.toNat) ++ be 1 k.toNat) ++ be 2 ((s.length : Nat) : Int).toNat = be 2 t.toNat ++ be 2 f.toNat ++ be 1 k.toNat ++ be 2 s.length
  rw [List.nil_append, Int.toNat_natCast]
theorem cells8 (w : World) (t f k n : Int) (T : TypeId) (i : Nat) (hi : i < 2 * 4) :
    (w.alloc (.cells #[.int .i64 t, .int .i64 2, .int .i64 f, .int .i64 2, .int .i64 k, .int .i64 1, .int .i64 n, .int .i64 2] T)).cell? ⟨w.heap.size, i, none⟩ = some (.int .i64 (zs8 t f k n i)) := by
  rw [cell_of_row _ _ _ _ _ _ (heap_alloc_new _ _)]
  rcases (show i = 0 ∨ i = 1 ∨ i = 2 ∨ i = 3 ∨ i = 4 ∨ i = 5 ∨ i = 6 ∨ i = 7 by omega) with rfl | rfl | rfl | rfl | rfl | rfl | rfl | rfl <;> rfl
theorem ok8 {t f k n : Int} (h1 : 0 ≤ t) (h2 : t ≤ 65535) (h3 : 0 ≤ f) (h4 : f ≤ 65535) (h5 : 0 ≤ k) (h6 : k ≤ 255) (h7 : 0 ≤ n) (h8 : n ≤ 65535) (j : Nat) (hj : j < 4) :
    1 ≤ zs8 t f k n (2 * j + 1) ∧ zs8 t f k n (2 * j + 1) ≤ 4 ∧ 0 ≤ zs8 t f k n (2 * j) ∧ zs8 t f k n (2 * j) < 256 ^ (zs8 t f k n (2 * j + 1)).toNat ∧ zs8 t f k n (2 * j) ≤ 4294967295 := by
  rcases (show j = 0 ∨ j = 1 ∨ j = 2 ∨ j = 3 by omega) with rfl | rfl | rfl | rfl
  · show 1 ≤ (2 : Int) ∧ (2 : Int) ≤ 4 ∧ 0 ≤ t ∧ t < 256 ^ 2 ∧ t ≤ 4294967295; omega
  · show 1 ≤ (2 : Int) ∧ (2 : Int) ≤ 4 ∧ 0 ≤ f ∧ f < 256 ^ 2 ∧ f ≤ 4294967295; omega
  · show 1 ≤ (1 : Int) ∧ (1 : Int) ≤ 4 ∧ 0 ≤ k ∧ k < 256 ^ 1 ∧ k ≤ 4294967295; omega
  · show 1 ≤ (2 : Int) ∧ (2 : Int) ≤ 4 ∧ 0 ≤ n ∧ n < 256 ^ 2 ∧ n ≤ 4294967295; omega
def zs2 (c : Int) : Nat → Int
  | 0 => c | _ => 4
theorem num_crc (c : Nat) : numsL (zs2 c) 1 = be 4 c := by
  show [] ++ be 4 ((c : Nat) : Int).toNat = _
  rw [List.nil_append, Int.toNat_natCast]
theorem cells2 (w : World) (c : Int) (T : TypeId) (i : Nat) (hi : i < 2 * 1) : (w.alloc (.cells #[.int .i64 c, .int .i64 4] T)).cell? ⟨w.heap.size, i, none⟩ = some (.int .i64 (zs2 c i)) := by
  rw [cell_of_row _ _ _ _ _ _ (heap_alloc_new _ _)]
  rcases (show i = 0 ∨ i = 1 by omega) with rfl | rfl <;> rfl
theorem ok2 {c : Int} (h1 : 0 ≤ c) (h2 : c ≤ 4294967295) (j : Nat) (hj : j < 1) :
    1 ≤ zs2 c (2 * j + 1) ∧ zs2 c (2 * j + 1) ≤ 4 ∧ 0 ≤ zs2 c (2 * j) ∧ zs2 c (2 * j) < 256 ^ (zs2 c (2 * j + 1)).toNat ∧ zs2 c (2 * j) ≤ 4294967295 := by
  obtain rfl : j = 0 := by omega
  show 1 ≤ (4 : Int) ∧ (4 : Int) ≤ 4 ∧ 0 ≤ c ∧ c < 256 ^ 4 ∧ c ≤ 4294967295
  omega
set_option maxHeartbeats 4000000 in
theorem encode_yes (t f k : Int) (s : ByteArray) (hv : Fr.okB ⟨t, f, k, s.data.toList⟩ = true) (a : Addr) (w : World) (he : ErrS a w) :
    Calls Tryd.prog 11 #[.agg #[.int .i64 t, .int .i64 f, .int .i64 k, .string s]] w fun e w' => e = .returned (.tuple #[.string ⟨(Fr.encL ⟨t, f, k, s.data.toList⟩).toArray⟩, .int .i64 0]) ∧ Below w.heap.size w w' := by
  obtain ⟨v1, v2, v3, v4, v5, v6⟩ := (Fr.okB_iff _).1 hv
  dsimp only at v1 v2 v3 v4 v5 v6
  have hsz : s.data.toList.length = s.size := by rw [Array.length_toList]; rfl
  rw [hsz] at v6
  have hs : s.size ≤ 9223372036854775807 := by omega
  have HV := Lib.hid hv
  have HG := Lib.hid he.2
  clear hv hsz
  have k1 : 1 ≤ k := by omega
  have k2 : k ≤ 2 := by omega
  have HK := Lib.hid v5
  clear v5
  go_enter Tryd.func11, Tryd.ntmps11
  go_wp2_with fail
  refine (valid_any t f k s hs _).mono ?_
  rintro e w1 ⟨rfl, hb1⟩
  rw [HV.out]
  have hB1 := below_val ((Below.refl _ _).alloc (Nat.le_refl _) (.cells #[.int .i64 t, .int .i64 f, .int .i64 k, .string s] 23)) (by simp) hb1
  have hz : w.heap.size < w1.heap.size := by have := hb1.size; simp at this; omega
  have bx : ∀ i v, (#[.int .i64 t, .int .i64 f, .int .i64 k, .string s] : Array Value)[i]? = some v → w1.cell? ⟨w.heap.size, i, none⟩ = some v := by
    intro i v hv
    refine (hb1.cell (p := ⟨w.heap.size, i, none⟩) (by simp)).trans ?_
    rw [cell_of_row _ _ _ _ _ _ (heap_alloc_new _ _)]
    exact hv
  have x0 := bx 0 _ rfl
  have x1 := bx 1 _ rfl
  have x2 := bx 2 _ rfl
  have x3 := bx 3 _ rfl
  replace he := he.below hB1 HG.out
  clear bx hb1
  go_wp2_with fail
  have HH := Lib.hid (show numsL (zs8 t f k s.size) 4 = Fr.headL ⟨t, f, k, s.data.toList⟩ by rw [← num_head, Array.length_toList]; rfl)
  refine (numbers_any w1.heap.size 4 (by omega) (zs8 t f k s.size) _ (by simp) (cells8 w1 t f k s.size 3) (ok8 (by omega) (by omega) (by omega) (by omega) (by omega) (by omega) (by omega) (by omega))).mono ?_
  rintro e w2 ⟨rfl, hb2⟩
  rw [HH.out]
  have hA2 := (Below.refl w1.heap.size w1).alloc (Nat.le_refl _) (.cells #[.int .i64 t, .int .i64 2, .int .i64 f, .int .i64 2, .int .i64 k, .int .i64 1, .int .i64 (s.size : Int), .int .i64 2] 3)
  have hB2 := below_val hA2 (by simp) hb2
  have y3 : w2.cell? ⟨w.heap.size, 3, none⟩ = some (.string s) := (hB2.cell (p := ⟨w.heap.size, 3, none⟩) hz).trans x3
  replace he := he.below hB2 (Nat.lt_of_lt_of_le HG.out hB1.size)
  replace hB2 := below_val hB1 hB1.size hB2
  have h0 := he.1
  clear x0 x1 x2 x3 hA2 hb2 HH
  go_wp2_with fail
  refine (is_nil a _).mono ?_
  rintro e w3 ⟨rfl, rfl⟩
  have HHL := Lib.hid (headL_length ⟨t, f, k, s.data.toList⟩)
  have HBL := Lib.hid (show Fr.headL ⟨t, f, k, s.data.toList⟩ ++ s.data.toList = Fr.bodyL ⟨t, f, k, s.data.toList⟩ from rfl)
  have HEL := Lib.hid (show Fr.bodyL ⟨t, f, k, s.data.toList⟩ ++ be 4 (crc (Fr.bodyL ⟨t, f, k, s.data.toList⟩)) = Fr.encL ⟨t, f, k, s.data.toList⟩ from rfl)
  generalize Fr.headL ⟨t, f, k, s.data.toList⟩ = hd at *
  have hdl : hd.length ≤ 7 := by have := HHL.out; omega
  go_wp2_with fail
  rw [ba_app, HBL.out]
  have hbl : (Fr.bodyL ⟨t, f, k, s.data.toList⟩).length ≤ 2000 := by rw [bodyL_length]; have : s.data.toList.length = s.size := by rw [Array.length_toList]; rfl
                                                                     dsimp only; omega
  clear HHL HBL
  generalize Fr.bodyL ⟨t, f, k, s.data.toList⟩ = bd at *
  refine (crc32_any ⟨bd.toArray⟩ _ (by rw [ba_size]; unfold maxLen; omega)).mono ?_
  rintro e w3 ⟨rfl, hb3⟩
  have hcl := crc_lt bd
  rw [ba_list]
  have he3 := he.below hb3 he.2
  replace hB2 := below_val hB2 hB2.size hb3
  clear hb3 h0 y3 he
  go_wp2_with fail
  have HN := Lib.hid (num_crc (crc bd))
  refine (numbers_any w3.heap.size 1 (by omega) (zs2 (crc bd)) _ (by simp) (cells2 w3 (crc bd) 3) (ok2 (by omega) (by omega))).mono ?_
  rintro e w4 ⟨rfl, hb4⟩
  rw [HN.out]
  have hB4 := below_val ((Below.refl w3.heap.size w3).alloc (Nat.le_refl _) (.cells #[.int .i64 (crc bd : Int), .int .i64 4] 3)) (by simp) hb4
  have he4 := he3.below hB4 he3.2
  replace hB2 := below_val hB2 hB2.size hB4
  have h0 := he4.1
  clear hb4 hB4 he3
  go_wp2_with fail
  refine (is_nil a _).mono ?_
  rintro e w5 ⟨rfl, rfl⟩
  have hl4 : (be 4 (crc bd)).length ≤ 4 := by rw [be_length]; exact Nat.le_refl _
  go_wp2_with fail
  go_ret2
  refine ⟨?_, hB2⟩
  rw [← HEL.out]
  show Ending.returned (.tuple #[.string (⟨bd.toArray⟩ ++ ⟨(be 4 (crc bd)).toArray⟩), .int .i64 0]) = _
  rw [ba_app]
end Go.Proofs.YtldmkoicjpkdiaaDoor
