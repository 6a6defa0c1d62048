/- link.numbers. -/
import Derived.Test.YtldmkoicjpkdiaaDoorBld
import Derived.Test.YtldmkoicjpkdiaaDoorWireGet
import Derived.Test.YtldmkoicjpkdiaaDoorWireCrc32
import Derived.Test.YtldmkoicjpkdiaaDoorIs
import Derived.WalkSpells
import Derived.WalkLawsBesides
import Derived.Deep.RegionHeld3
import Derived.RegionTactic
import Derived.BigRegion
namespace Go.Proofs.YtldmkoicjpkdiaaDoor
open Go.RowKit
/-- The bytes of the first k pairs. -/
def numsL (zs : Nat → Int) : Nat → List UInt8
  | 0 => []
  | k + 1 => numsL zs k ++ be (zs (2 * k + 1)).toNat (zs (2 * k)).toNat
theorem numsL_le (zs : Nat → Int) (n : Nat) (h : ∀ j, j < n → zs (2 * j + 1) ≤ 4) : ∀ k, k ≤ n → (numsL zs k).length ≤ 4 * k
  | 0, _ => by simp [numsL]
  | k + 1, hk => by
    have := numsL_le zs n h k (by omega)
    have := h k (by omega)
    unfold numsL
    rw [List.length_append, be_length]
    omega
/-- A builder stays one where only new memory is made. -/
theorem bld_below {T e : TypeId} {B b : Nat} {bs : List Value} {w w' : World} (h : Lib.IsBuilder T e B b bs w) (hb : Below w.heap.size w w') : Lib.IsBuilder T e B b bs w' := by
  have one : ∀ p, Lib.BuilderAt T e B b p bs w → Lib.BuilderAt T e B b p bs w' := by
    intro p hp
    have hl := hp.lt
    obtain ⟨h1, v, h2, h3, h4⟩ := hp
    refine ⟨h1, v, by rw [hb.block b hl]; exact h2, h3.kept (row := none) ⟨hb.os, hb.tape, hb.output, hb.size, fun i hi _ => hb.block i hi⟩ ?_, h4⟩
    cases v.ownBlock with
    | none => exact .inl rfl
    | some x => exact .inr (by simp)
  exact h.imp (one _) (one _)
theorem bld_drew {T e : TypeId} {B b : Nat} {bs : List Value} {w : World} (h : Lib.IsBuilder T e B b bs w) : Lib.IsBuilder T e B b bs w.drew := h
set_option maxRecDepth 100000 in
set_option maxHeartbeats 2000000 in
theorem numbers_any (C n : Nat) (hn : n ≤ 8) (zs : Nat → Int) (w : World) (hC : C < w.heap.size) (hc : ∀ i, i < 2 * n → w.cell? ⟨C, i, none⟩ = some (.int .i64 (zs i)))
    (hok : ∀ j, j < n → 1 ≤ zs (2 * j + 1) ∧ zs (2 * j + 1) ≤ 4 ∧ 0 ≤ zs (2 * j) ∧ zs (2 * j) < 256 ^ (zs (2 * j + 1)).toNat ∧ zs (2 * j) ≤ 4294967295) :
    Calls Tryd.prog 23 #[.slice (some ⟨C, 0, none⟩) (2 * n) (2 * n)] w fun e w' => e = .returned (.tuple #[.string ⟨(numsL zs n).toArray⟩, .nilIface]) ∧ Below w.heap.size w w' := by
  have HL := Lib.hid (numsL_le zs n (fun j hj => (hok j hj).2.1))
  have HC := Lib.hid hc
  have HOK := Lib.hid hok
  have hfr := Lib.fresh_isBuilder 67 5 w
  have HFR := Lib.hid hfr
  clear hc hok hfr
  go_enter Tryd.func23, Tryd.ntmps23
  go_wp2_with fail
  have hB0 := (Below.refl w.heap.size w).alloc (Nat.le_refl _) (.cells #[.pointer none, .slice none 0 0] 67)
  generalize w.alloc (.cells #[.pointer none, .slice none 0 0] 67) = W0 at *
  obtain ⟨B, hBB⟩ : ∃ B, w.heap.size = B := ⟨_, rfl⟩
  rw [hBB] at HFR hB0 hC ⊢
  have HBB := Lib.hid hBB
  clear hBB
  go_loopw [5] (fun i wr => ∃ k : Nat, k ≤ n ∧ i = .int .i64 (2 * (k : Int)) ∧ Lib.IsBuilder 67 5 B B (Lib.byteCells (numsL zs k)) wr ∧ Below B w wr) (fun i _ => 2 * n - (intOf i).toNat)
  case atStart => exact ⟨0, Nat.zero_le _, rfl, HFR.out, hB0⟩
  case round =>
    obtain ⟨k, hk, rfl, hI, hBk⟩ := hrel
    clear hB0 HFR
    have hBw : B ≤ wr.heap.size := by have := hBk.size; have := HBB.out; omega
    by_cases hlt : k < n
    · obtain ⟨q1, q2, q3, q4, q5⟩ := HOK.out k hlt
      have g0 : wr.cell? ⟨C, 2 * k, none⟩ = some (.int .i64 (zs (2 * k))) := (hBk.cell (p := ⟨C, _, none⟩) hC).trans (HC.out _ (by omega))
      have g1 : wr.cell? ⟨C, 2 * k + 1, none⟩ = some (.int .i64 (zs (2 * k + 1))) := (hBk.cell (p := ⟨C, _, none⟩) hC).trans (HC.out _ (by omega))
      have hlen := HL.out k (by omega)
      obtain ⟨m, hm⟩ := Int.eq_ofNat_of_zero_le q3
      obtain ⟨d, hd⟩ := Int.eq_ofNat_of_zero_le (show 0 ≤ zs (2 * k + 1) by omega)
      have HS := Lib.hid (show numsL zs (k + 1) = numsL zs k ++ be d m by show numsL zs k ++ be (zs (2 * k + 1)).toNat (zs (2 * k)).toNat = _; rw [hm, hd]; rfl)
      rw [hm] at g0 q4 q5
      rw [hd] at g1 q1 q2 q4
      rw [Int.toNat_natCast] at q4
      have hmd : m < 256 ^ d := by
        have h : ((m : Nat) : Int) < ((256 ^ d : Nat) : Int) := by rw [Int.natCast_pow]; exact q4
        omega
      have HP := Lib.hid (putS_yes m d (by omega) (by omega) hmd)
      clear hm hd q3 q4 hmd
      have hCw : C < wr.heap.size := by omega
      have f1 : (2 * (k : Int) + 1) < 2 * (n : Int) := by omega
      have i1 : IntKind.i64.wrap (2 * (k : Int) + 1) = 2 * (k : Int) + 1 := IntWalk.i64_in _ (by omega)
      have i2 : (0 : Int) ≤ 2 * (k : Int) + 1 := by omega
      have i3 : (2 * (k : Int) + 1).toNat = 2 * k + 1 := by omega
      have i4 : (2 * (k : Int)).toNat = 2 * k := by omega
      have i5 : (0 : Int) ≤ 2 * (k : Int) := by omega
      have i6 : 2 * (k : Int) < 2 * (n : Int) := by omega
      have i7 : 2 * k < 2 * n := by omega
      have i8 : 2 * k + 1 < 2 * n := by omega
      have i9 : (0 : Int) ≤ (k : Int) := by omega
      have i10 : (k : Int) < (n : Int) := by omega
      go_wp2_with fail
      go_region_held3 (fun w' => w'.cell? ⟨C, 2 * k, none⟩ = some (.int .i64 (m : Int)) ∧ w'.cell? ⟨C, 2 * k + 1, none⟩ = some (.int .i64 (d : Int))) (first | exact ⟨z0, z1⟩ | go_keep) (first | (go_at_call 33; refine (put_any (m : Int) (d : Int) (by omega) _).mono ?_; rintro e w1 ⟨rfl, hb1⟩; have z0 := (hb1.cell (p := ⟨C, 2 * k, none⟩) hCw).trans g0; have z1 := (hb1.cell (p := ⟨C, 2 * k + 1, none⟩) hCw).trans g1))
      all_goals
        rw [HP.out.1, HP.out.2]
        have hI1 := bld_below (bld_drew hI) hb1
        have hBk1 := hBk.drew.trans (hb1.mono hBw)
        have hBw1 : B ≤ w1.heap.size := Nat.le_trans hBw hb1.size
        go_wp2_with fail
        refine (writeString_any B B _ ⟨(be d m).toArray⟩ _ hI1 (by rw [Lib.byteCells_length]; have h := be_length d m; have h2 : (⟨(be d m).toArray⟩ : ByteArray).size = (be d m).length := rfl; omega) hBw1).mono ?_
        rintro e w2 ⟨rfl, hI2, hb2⟩
        rw [show Lib.strCells ⟨(be d m).toArray⟩ = Lib.byteCells (be d m) from rfl, ← Lib.byteCells_append, ← HS.out] at hI2
        go_wp2_with fail
        go_roundw
        case rel => exact ⟨k + 1, by omega, by go_num, hI2, hBk1.trans hb2⟩
        case measure => simp [intOf]; omega
    · obtain rfl : k = n := by omega
      go_wp2_with fail
      refine (bstring_any B B (numsL zs k) _ hI hBw).mono ?_
      rintro e w1 ⟨rfl, hb1⟩
      go_wp2_with fail
      go_ret2
      exact ⟨rfl, by rw [HBB.out]; exact hBk.trans hb1⟩
end Go.Proofs.YtldmkoicjpkdiaaDoor
