/- AddressedTo, pick, Frame, and the link statements' examples. -/
import Derived.Test.YtldmkoicjpkdiaaDoorLkDec
namespace Go.Proofs.YtldmkoicjpkdiaaDoor
open Go.RowKit
def addrB (t f m : Int) : Bool := decide ((t = m ∨ t = 65535) ∧ f ≠ m)
set_option maxHeartbeats 1000000 in
theorem addressed_any (t f k : Int) (s : ByteArray) (m : Int) (w : World) :
    Calls Tryd.prog 17 #[.agg #[.int .i64 t, .int .i64 f, .int .i64 k, .string s], .int .i64 m] w fun e w' => e = .returned (.bool (addrB t f m)) ∧ Below w.heap.size w w' := by
  by_cases h1 : t = m
  · subst h1
    by_cases h2 : f = t
    · subst h2
      have HV := Lib.hid (show false = addrB f f f by unfold addrB; simp)
      go_enter Tryd.func17, Tryd.ntmps17
      go_wp2_with fail
      go_ret
      exact ⟨ret_b HV.out, (Below.refl _ _).alloc (Nat.le_refl _) _⟩
    · have HV := Lib.hid (show true = addrB t f t by unfold addrB; simp [h2])
      have b1 : (f == t) = false := by rw [beq_eq_false_iff_ne]; exact h2
      have b2 : (f != t) = true := by rw [bne_iff_ne]; exact h2
      clear h2
      go_enter Tryd.func17, Tryd.ntmps17
      go_wp2_with fail
      go_ret
      exact ⟨ret_b HV.out, (Below.refl _ _).alloc (Nat.le_refl _) _⟩
  · have c1 : (t == m) = false := by rw [beq_eq_false_iff_ne]; exact h1
    by_cases h3 : t = 65535
    · by_cases h2 : f = m
      · subst h2
        have HV := Lib.hid (show false = addrB t f f by unfold addrB; simp)
        subst h3
        clear h1
        go_enter Tryd.func17, Tryd.ntmps17
        go_wp2_with fail
        go_ret
        exact ⟨ret_b HV.out, (Below.refl _ _).alloc (Nat.le_refl _) _⟩
      · have HV := Lib.hid (show true = addrB t f m by unfold addrB; simp [h2, h3])
        have b1 : (f == m) = false := by rw [beq_eq_false_iff_ne]; exact h2
        have b2 : (f != m) = true := by rw [bne_iff_ne]; exact h2
        subst h3
        clear h2 h1
        go_enter Tryd.func17, Tryd.ntmps17
        go_wp2_with fail
        go_ret
        exact ⟨ret_b HV.out, (Below.refl _ _).alloc (Nat.le_refl _) _⟩
    · have HV := Lib.hid (show false = addrB t f m by unfold addrB; simp [h1, h3])
      have c2 : (t == 65535) = false := by rw [beq_eq_false_iff_ne]; exact h3
      clear h1 h3
      go_enter Tryd.func17, Tryd.ntmps17
      go_wp2_with fail
      go_ret
      exact ⟨ret_b HV.out, (Below.refl _ _).alloc (Nat.le_refl _) _⟩
/-- The example. -/
def exF : Fr := ⟨65535, 2, 1, [97]⟩
theorem exF_ok : exF.okB = true := by decide +kernel
theorem exF_enc : exF.encL = [255, 255, 0, 2, 1, 0, 1, 97, 48, 141, 199, 53] := by decide +kernel
theorem exQ : (((⟨#[255, 255, 0, 2, 1, 0, 1, 97, 48, 141, 199, 53]⟩ : ByteArray).extract 0 8).toList == [255, 255, 0, 2, 1, 0, 1, 97]) = true := by decide +kernel
theorem exRes : decRes ⟨#[255, 255, 0, 2, 1, 0, 1, 97, 48, 141, 199, 53]⟩ = .tuple #[.agg #[.int .i64 65535, .int .i64 2, .int .i64 1, .string ⟨#[97]⟩], .int .i64 0] := by kernel_rfl
theorem exRes2 : decRes ⟨#[255, 255, 0, 2, 1, 0, 1, 97, 48, 141, 199, 53, 97]⟩ = .tuple #[.agg #[.int .i64 0, .int .i64 0, .int .i64 0, .string ⟨#[]⟩], .int .i64 40] := by kernel_rfl
set_option maxRecDepth 100000 in
set_option maxHeartbeats 4000000 in
theorem sane_any (a : Addr) (w : World) (he : ErrS a w) :
    Calls Tryd.prog 10 #[] w fun r w' => r = .returned (.bool true) ∧ Below w.heap.size w w' := by
  have HG := Lib.hid he.2
  go_enter Tryd.func10, Tryd.ntmps10
  go_wp2_with fail
  have hb0 := (Below.refl w.heap.size w).alloc (Nat.le_refl _) (.cells #[.int .i64 65535, .int .i64 2, .int .i64 1, .string ⟨#[97]⟩] 23)
  have hx : ∀ i v, (#[.int .i64 65535, .int .i64 2, .int .i64 1, .string ⟨#[97]⟩] : Array Value)[i]? = some v → (w.alloc (.cells #[.int .i64 65535, .int .i64 2, .int .i64 1, .string ⟨#[97]⟩] 23)).cell? ⟨w.heap.size, i, none⟩ = some v := by
    intro i v hv
    rw [cell_of_row _ _ _ _ _ _ (heap_alloc_new _ _)]
    exact hv
  have x0 := hx 0 (.int .i64 65535) rfl
  have x1 := hx 1 (.int .i64 2) rfl
  have x2 := hx 2 (.int .i64 1) rfl
  have x3 := hx 3 (.string ⟨#[97]⟩) rfl
  have hl : w.heap.size < (w.alloc (.cells #[.int .i64 65535, .int .i64 2, .int .i64 1, .string ⟨#[97]⟩] 23)).heap.size := by simp
  replace he := he.below hb0 HG.out
  clear hx
  generalize w.alloc (.cells #[.int .i64 65535, .int .i64 2, .int .i64 1, .string ⟨#[97]⟩] 23) = W0 at *
  refine (encode_yes 65535 2 1 ⟨#[97]⟩ exF_ok a _ he).mono ?_
  rintro e w1 ⟨rfl, hb⟩
  rw [show Fr.encL ⟨65535, 2, 1, (⟨#[97]⟩ : ByteArray).data.toList⟩ = exF.encL from rfl, exF_enc]
  replace x0 := (hb.cell (p := ⟨w.heap.size, 0, none⟩) hl).trans x0
  replace x1 := (hb.cell (p := ⟨w.heap.size, 1, none⟩) hl).trans x1
  replace x2 := (hb.cell (p := ⟨w.heap.size, 2, none⟩) hl).trans x2
  replace x3 := (hb.cell (p := ⟨w.heap.size, 3, none⟩) hl).trans x3
  replace hl := Nat.lt_of_lt_of_le hl hb.size
  replace he := he.below hb he.2
  replace hb0 := below_val hb0 hb0.size hb
  clear hb
  go_wp2_with fail
  refine (decode_any ⟨#[255, 255, 0, 2, 1, 0, 1, 97, 48, 141, 199, 53]⟩ (by decide) a _ he).mono ?_
  rintro e w2 ⟨rfl, hb⟩
  rw [exRes]
  replace x0 := (hb.cell (p := ⟨w.heap.size, 0, none⟩) hl).trans x0
  replace x1 := (hb.cell (p := ⟨w.heap.size, 1, none⟩) hl).trans x1
  replace x2 := (hb.cell (p := ⟨w.heap.size, 2, none⟩) hl).trans x2
  replace x3 := (hb.cell (p := ⟨w.heap.size, 3, none⟩) hl).trans x3
  replace hl := Nat.lt_of_lt_of_le hl hb.size
  replace he := he.below hb he.2
  replace hb0 := below_val hb0 hb0.size hb
  clear hb
  go_wp2_with fail
  have hbg := (Below.refl w2.heap.size w2).alloc (Nat.le_refl _) (.cells #[.int .i64 65535, .int .i64 2, .int .i64 1, .string ⟨#[97]⟩] 23)
  have hz : ∀ i v, (#[.int .i64 65535, .int .i64 2, .int .i64 1, .string ⟨#[97]⟩] : Array Value)[i]? = some v → (w2.alloc (.cells #[.int .i64 65535, .int .i64 2, .int .i64 1, .string ⟨#[97]⟩] 23)).cell? ⟨w2.heap.size, i, none⟩ = some v := by
    intro i v hv
    rw [cell_of_row _ _ _ _ _ _ (heap_alloc_new _ _)]
    exact hv
  have z0 := hz 0 (.int .i64 65535) rfl
  have z1 := hz 1 (.int .i64 2) rfl
  have z2 := hz 2 (.int .i64 1) rfl
  have z3 := hz 3 (.string ⟨#[97]⟩) rfl
  have hg : w2.heap.size < (w2.alloc (.cells #[.int .i64 65535, .int .i64 2, .int .i64 1, .string ⟨#[97]⟩] 23)).heap.size := by simp
  replace x0 := (hbg.cell (p := ⟨w.heap.size, 0, none⟩) hl).trans x0
  replace x1 := (hbg.cell (p := ⟨w.heap.size, 1, none⟩) hl).trans x1
  replace x2 := (hbg.cell (p := ⟨w.heap.size, 2, none⟩) hl).trans x2
  replace x3 := (hbg.cell (p := ⟨w.heap.size, 3, none⟩) hl).trans x3
  have hGN : w.heap.size < w2.heap.size := hl
  replace hl := Nat.lt_of_lt_of_le hl hbg.size
  replace he := he.below hbg he.2
  replace hb0 := below_val hb0 hb0.size hbg
  clear hz hbg
  generalize w2.alloc (.cells #[.int .i64 65535, .int .i64 2, .int .i64 1, .string ⟨#[97]⟩] 23) = W2 at *
  generalize w2.heap.size = G at *
  rw [show ((⟨#[255, 255, 0, 2, 1, 0, 1, 97, 48, 141, 199, 53]⟩ : ByteArray) ++ ⟨#[97]⟩) = ⟨#[255, 255, 0, 2, 1, 0, 1, 97, 48, 141, 199, 53, 97]⟩ from by rw [ba_app]; rfl]
  refine (decode_any ⟨#[255, 255, 0, 2, 1, 0, 1, 97, 48, 141, 199, 53, 97]⟩ (by decide) a _ he).mono ?_
  rintro e w3 ⟨rfl, hb⟩
  replace x0 := (hb.cell (p := ⟨w.heap.size, 0, none⟩) hl).trans x0
  replace x1 := (hb.cell (p := ⟨w.heap.size, 1, none⟩) hl).trans x1
  replace x2 := (hb.cell (p := ⟨w.heap.size, 2, none⟩) hl).trans x2
  replace x3 := (hb.cell (p := ⟨w.heap.size, 3, none⟩) hl).trans x3
  replace hl := Nat.lt_of_lt_of_le hl hb.size
  replace z0 := (hb.cell (p := ⟨G, 0, none⟩) hg).trans z0
  replace z1 := (hb.cell (p := ⟨G, 1, none⟩) hg).trans z1
  replace z2 := (hb.cell (p := ⟨G, 2, none⟩) hg).trans z2
  replace z3 := (hb.cell (p := ⟨G, 3, none⟩) hg).trans z3
  replace hg := Nat.lt_of_lt_of_le hg hb.size
  replace he := he.below hb he.2
  replace hb0 := below_val hb0 hb0.size hb
  clear hb
  rw [exRes2]
  go_wp2_with fail
  have hb := (Below.refl w3.heap.size w3).alloc (Nat.le_refl _) (.cells #[.int .i64 0, .int .i64 0, .int .i64 0, .string ⟨#[]⟩] 23)
  replace x0 := (hb.cell (p := ⟨w.heap.size, 0, none⟩) hl).trans x0
  replace x1 := (hb.cell (p := ⟨w.heap.size, 1, none⟩) hl).trans x1
  replace x2 := (hb.cell (p := ⟨w.heap.size, 2, none⟩) hl).trans x2
  replace x3 := (hb.cell (p := ⟨w.heap.size, 3, none⟩) hl).trans x3
  replace hl := Nat.lt_of_lt_of_le hl hb.size
  replace z0 := (hb.cell (p := ⟨G, 0, none⟩) hg).trans z0
  replace z1 := (hb.cell (p := ⟨G, 1, none⟩) hg).trans z1
  replace z2 := (hb.cell (p := ⟨G, 2, none⟩) hg).trans z2
  replace z3 := (hb.cell (p := ⟨G, 3, none⟩) hg).trans z3
  replace hg := Nat.lt_of_lt_of_le hg hb.size
  replace he := he.below hb he.2
  replace hb0 := below_val hb0 hb0.size hb
  clear hb
  generalize w3.alloc (.cells #[.int .i64 0, .int .i64 0, .int .i64 0, .string ⟨#[]⟩] 23) = W3 at *
  refine (encode_no 0 0 0 ⟨#[]⟩ (by decide) (by decide +kernel) _).mono ?_
  rintro e w4 ⟨rfl, hb⟩
  replace x0 := (hb.cell (p := ⟨w.heap.size, 0, none⟩) hl).trans x0
  replace x1 := (hb.cell (p := ⟨w.heap.size, 1, none⟩) hl).trans x1
  replace x2 := (hb.cell (p := ⟨w.heap.size, 2, none⟩) hl).trans x2
  replace x3 := (hb.cell (p := ⟨w.heap.size, 3, none⟩) hl).trans x3
  replace hl := Nat.lt_of_lt_of_le hl hb.size
  replace z0 := (hb.cell (p := ⟨G, 0, none⟩) hg).trans z0
  replace z1 := (hb.cell (p := ⟨G, 1, none⟩) hg).trans z1
  replace z2 := (hb.cell (p := ⟨G, 2, none⟩) hg).trans z2
  replace z3 := (hb.cell (p := ⟨G, 3, none⟩) hg).trans z3
  replace hg := Nat.lt_of_lt_of_le hg hb.size
  replace he := he.below hb he.2
  replace hb0 := below_val hb0 hb0.size hb
  clear hb
  have hq := exQ
  go_wp2_with fail
  refine (valid_any 65535 2 1 ⟨#[97]⟩ (by decide) _).mono ?_
  rintro e w5 ⟨rfl, hb⟩
  rw [show Fr.okB ⟨65535, 2, 1, (⟨#[97]⟩ : ByteArray).data.toList⟩ = true from exF_ok]
  replace x0 := (hb.cell (p := ⟨w.heap.size, 0, none⟩) hl).trans x0
  replace x1 := (hb.cell (p := ⟨w.heap.size, 1, none⟩) hl).trans x1
  replace x2 := (hb.cell (p := ⟨w.heap.size, 2, none⟩) hl).trans x2
  replace x3 := (hb.cell (p := ⟨w.heap.size, 3, none⟩) hl).trans x3
  replace hl := Nat.lt_of_lt_of_le hl hb.size
  replace z0 := (hb.cell (p := ⟨G, 0, none⟩) hg).trans z0
  replace z1 := (hb.cell (p := ⟨G, 1, none⟩) hg).trans z1
  replace z2 := (hb.cell (p := ⟨G, 2, none⟩) hg).trans z2
  replace z3 := (hb.cell (p := ⟨G, 3, none⟩) hg).trans z3
  replace hg := Nat.lt_of_lt_of_le hg hb.size
  replace he := he.below hb he.2
  replace hb0 := below_val hb0 hb0.size hb
  clear hb
  go_wp2_with fail
  refine (valid_any 0 0 0 ⟨#[]⟩ (by decide) _).mono ?_
  rintro e w6 ⟨rfl, hb⟩
  rw [show Fr.okB ⟨0, 0, 0, (⟨#[]⟩ : ByteArray).data.toList⟩ = false from by decide +kernel]
  replace x0 := (hb.cell (p := ⟨w.heap.size, 0, none⟩) hl).trans x0
  replace x1 := (hb.cell (p := ⟨w.heap.size, 1, none⟩) hl).trans x1
  replace x2 := (hb.cell (p := ⟨w.heap.size, 2, none⟩) hl).trans x2
  replace x3 := (hb.cell (p := ⟨w.heap.size, 3, none⟩) hl).trans x3
  replace hl := Nat.lt_of_lt_of_le hl hb.size
  replace hb0 := below_val hb0 hb0.size hb
  clear hb
  go_wp2_with fail
  refine (addressed_any 65535 2 1 ⟨#[97]⟩ 3 _).mono ?_
  rintro e w7 ⟨rfl, hb⟩
  rw [show addrB 65535 2 3 = true from by decide +kernel]
  replace x0 := (hb.cell (p := ⟨w.heap.size, 0, none⟩) hl).trans x0
  replace x1 := (hb.cell (p := ⟨w.heap.size, 1, none⟩) hl).trans x1
  replace x2 := (hb.cell (p := ⟨w.heap.size, 2, none⟩) hl).trans x2
  replace x3 := (hb.cell (p := ⟨w.heap.size, 3, none⟩) hl).trans x3
  replace hl := Nat.lt_of_lt_of_le hl hb.size
  replace hb0 := below_val hb0 hb0.size hb
  clear hb
  go_wp2_with fail
  refine (addressed_any 65535 2 1 ⟨#[97]⟩ 2 _).mono ?_
  rintro e w8 ⟨rfl, hb⟩
  rw [show addrB 65535 2 2 = false from by decide +kernel]
  replace x0 := (hb.cell (p := ⟨w.heap.size, 0, none⟩) hl).trans x0
  replace x1 := (hb.cell (p := ⟨w.heap.size, 1, none⟩) hl).trans x1
  replace x2 := (hb.cell (p := ⟨w.heap.size, 2, none⟩) hl).trans x2
  replace x3 := (hb.cell (p := ⟨w.heap.size, 3, none⟩) hl).trans x3
  replace hl := Nat.lt_of_lt_of_le hl hb.size
  replace hb0 := below_val hb0 hb0.size hb
  clear hb
  go_wp2_with fail
  go_ret
  exact ⟨rfl, hb0⟩
end Go.Proofs.YtldmkoicjpkdiaaDoor
