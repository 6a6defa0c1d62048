/- The walk of wire.CRC32. -/
import Derived.Test.YtldmkoicjpkdiaaDoorRows
import Derived.Test.YtldmkoicjpkdiaaDoorWirePlain
import Derived.WalkKit
import Derived.WalkSpells
import Derived.WalkLawsBesides
import Derived.Lib.Hide
import Derived.Laws.BitsAllLaws
import Derived.Laws.Rows
namespace Go.Proofs.YtldmkoicjpkdiaaDoor
open Go.RowKit
/-- Block B is the register's box and holds c. -/
def Reg (B c : Nat) (w : World) : Prop := w.cell? ⟨B, 0, none⟩ = some (.int .u32 c) ∧ w.frozen? ⟨B, 0, none⟩ = false
theorem Reg.set {B c : Nat} {w : World} (h : Reg B c w) (x : Nat) : Reg B x (w.setCell ⟨B, 0, none⟩ (.int .u32 x)) :=
  ⟨World.cell?_setCell_same' _ _ _ (by rw [h.1]; rfl), by rw [World.frozen?_setCell]; exact h.2⟩
theorem and1_t {x : Nat} (hx : x < 4294967296) (h : x % 2 = 1) : (bits .and .u32 (x : Int) 1 == 1) = true := by
  have := u32_and_nat x 1 hx (by omega)
  rw [show ((1 : Nat) : Int) = 1 from rfl] at this
  rw [this, nat_mask1, h]; rfl
theorem and1_f {x : Nat} (hx : x < 4294967296) (h : ¬ x % 2 = 1) : (bits .and .u32 (x : Int) 1 == 1) = false := by
  have := u32_and_nat x 1 hx (by omega)
  rw [show ((1 : Nat) : Int) = 1 from rfl] at this
  rw [this, nat_mask1, show x % 2 = 0 by omega]; rfl
theorem xorPoly {x : Nat} (hx : x < 4294967296) : bits .xor .u32 ((x : Int) / 2) 3988292384 = ((x / 2 ^^^ 3988292384 : Nat) : Int) := by
  have := u32_xor_nat (x / 2) 3988292384 (by omega) (by omega)
  simpa using this
set_option maxHeartbeats 400000 in
theorem feed_any (c b : Nat) (B : Nat) (w : World) (hR : Reg B c w) (hc2 : c < 4294967296) (hb : b < 256) :
    Calls Tryd.prog 32 #[.int .u8 b, .pointer (some ⟨B, 0, none⟩)] w fun e w' => e = .returned (.tuple #[]) ∧ Reg B (crcByte c b) w' ∧ Below B w w' := by
  obtain ⟨hc, hf⟩ := hR
  have HX := Lib.hid (u32_xor_nat c b hc2 (by omega))
  go_enter Tryd.func32, Tryd.ntmps32
  go_wp2
  rw [HX.out]
  have hx0 : c ^^^ b < 4294967296 := xor_lt32 hc2 (by omega)
  have h0 := Reg.set ⟨hc, hf⟩ (c ^^^ b)
  go_loopw [8] (fun i wr => ∃ k : Nat, k ≤ 8 ∧ i = .int .i64 k ∧ Reg B (crcIt k (c ^^^ b)) wr ∧ Below B w wr) (fun i _ => 8 - (intOf i).toNat)
  case atStart => exact ⟨0, by omega, rfl, h0, (Below.refl _ _).setCell (p := ⟨B, 0, none⟩) (Nat.le_refl _) _⟩
  case round =>
    clear h0 HX hc hf
    obtain ⟨k, hk, rfl, hR, hB⟩ := hrel
    have hx := crcIt_lt k hx0
    by_cases hlt : k < 8
    · obtain ⟨x, hxx⟩ : ∃ x, crcIt k (c ^^^ b) = x := ⟨_, rfl⟩
      have hs : crcIt (k + 1) (c ^^^ b) = crcBit x := by rw [← hxx]; rfl
      rw [hxx] at hR hx
      have HS := Lib.hid hs
      clear hs hxx hx0
      obtain ⟨h1, h2⟩ := hR
      by_cases hodd : x % 2 = 1
      · have ht := and1_t hx hodd
        have hp := xorPoly hx
        have hcb : crcBit x = x / 2 ^^^ 3988292384 := by unfold crcBit; rw [if_pos hodd]
        rw [hcb] at HS
        clear hodd hcb
        go_wp2
        go_roundw
        case rel => exact ⟨k + 1, by omega, by go_num, by rw [HS.out]; exact (Reg.set (Reg.set ⟨h1, h2⟩ (x / 2)) _), (hB.setCell (p := ⟨B, 0, none⟩) (Nat.le_refl _) _).setCell (p := ⟨B, 0, none⟩) (Nat.le_refl _) _⟩
        case measure => simp [intOf]; omega
      · have ht := and1_f hx hodd
        have hcb : crcBit x = x / 2 := by unfold crcBit; rw [if_neg hodd]
        rw [hcb] at HS
        clear hodd hcb
        go_wp2
        go_roundw
        case rel => exact ⟨k + 1, by omega, by go_num, by rw [HS.out]; exact (Reg.set ⟨h1, h2⟩ (x / 2)), hB.setCell (p := ⟨B, 0, none⟩) (Nat.le_refl _) _⟩
        case measure => simp [intOf]; omega
    · obtain rfl : k = 8 := by omega
      go_wp2
      go_end0
      exact ⟨rfl, hR, hB⟩
end Go.Proofs.YtldmkoicjpkdiaaDoor
