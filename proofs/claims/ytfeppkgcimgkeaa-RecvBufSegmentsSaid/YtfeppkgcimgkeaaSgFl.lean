/- segment.flags, flagByte. -/
import Derived.Test.YtfeppkgcimgkeaaSgVal
import Derived.Laws.Rows
namespace Go.Proofs.Ytfeppkgcimgkeaa
open Go.RowKit
set_option maxRecDepth 100000 in
set_option maxHeartbeats 2000000 in
theorem flags_any (g : Sg) (a : Option Addr) (cap : Nat) (S : ByteArray) (w : World) :
    Calls Try.prog 89 #[.agg #[.int .i64 g.fp, .int .i64 g.tp, .int .i64 g.sq, .int .i64 g.ak, .bool g.syn, .bool g.fin, .bool g.rst, .bool g.has, .int .i64 g.win, .int .i64 g.mss, .bool g.sacks, .slice a g.bl.length cap, .string S]] w fun e w' => e = .returned (.agg #[.bool g.syn, .bool g.fin, .bool g.rst, .bool g.has, .bool g.sacks]) ∧ Below w.heap.size w w' := by
  obtain ⟨fp, tp, sq, ak, syn, fin, rst, has, win, mss, sacks, bl, s⟩ := g
  dsimp only
  go_enter Try.func89, Try.ntmps89
  go_wp2_with fail
  have hbl := (((Below.refl w.heap.size w).alloc (Nat.le_refl _) (.cells #[.int .i64 fp, .int .i64 tp, .int .i64 sq, .int .i64 ak, .bool syn, .bool fin, .bool rst, .bool has, .int .i64 win, .int .i64 mss, .bool sacks, .slice a bl.length cap, .string S] 57)).alloc (by simp) (.cells #[.bool syn, .bool fin, .bool rst, .bool has, .bool sacks] 127))
  refine bodyPost_ret (v := .agg #[.bool syn, .bool fin, .bool rst, .bool has, .bool sacks]) (by simp [results, Try.results89, go_sem]) rfl ⟨rfl, hbl⟩
def flAt (g : Sg) : Nat → Bool
  | 0 => g.syn | 1 => g.fin | 2 => g.rst | 3 => g.has | _ => g.sacks
def flTo (g : Sg) : Nat → Nat
  | 0 => 0
  | k + 1 => flTo g k + flN (flAt g k) (2 ^ k)
theorem flTo_five (g : Sg) : flTo g 5 = g.flag := by
  unfold Sg.flag
  simp [flTo, flAt]
theorem flTo_le (g : Sg) (k : Nat) (h : k ≤ 5) : flTo g k ≤ 31 := by
  have : ∀ k, k ≤ 5 → flTo g k ≤ 2 ^ k - 1 := by
    intro k hk
    induction k with
    | zero => simp [flTo]
    | succ k ih =>
      have := ih (by omega)
      have h2 : flN (flAt g k) (2 ^ k) ≤ 2 ^ k := by
        unfold flN
        split
        · exact Nat.le_refl _
        · exact Nat.zero_le _
      show flTo g k + flN (flAt g k) (2 ^ k) ≤ _
      have h3 : 1 ≤ 2 ^ k := Nat.one_le_two_pow
      rw [Nat.pow_succ]
      omega
  have h5 := this k h
  have : 2 ^ k ≤ 2 ^ 5 := Nat.pow_le_pow_right (by omega) h
  omega
set_option maxRecDepth 100000 in
set_option maxHeartbeats 2000000 in
theorem flagByte_any (g : Sg) (a : Option Addr) (cap : Nat) (S : ByteArray) (w : World) :
    Calls Try.prog 69 #[.agg #[.int .i64 g.fp, .int .i64 g.tp, .int .i64 g.sq, .int .i64 g.ak, .bool g.syn, .bool g.fin, .bool g.rst, .bool g.has, .int .i64 g.win, .int .i64 g.mss, .bool g.sacks, .slice a g.bl.length cap, .string S]] w fun e w' => e = .returned (.int .i64 (g.flag : Nat)) ∧ Below w.heap.size w w' := by
  have HF := Lib.hid (fun W => flags_any g a cap S W)
  have HL := Lib.hid (flTo_le g)
  have HT := Lib.hid (fun k => show flTo g (k + 1) = flTo g k + flN (flAt g k) (2 ^ k) from rfl)
  have H5 := Lib.hid (flTo_five g)
  have H0 := Lib.hid (show flTo g 0 = 0 from rfl)
  have HA := Lib.hid (fun k => show flAt g k = (match k with | 0 => g.syn | 1 => g.fin | 2 => g.rst | 3 => g.has | _ => g.sacks) by cases k with
    | zero => rfl
    | succ k => cases k with
      | zero => rfl
      | succ k => cases k with
        | zero => rfl
        | succ k => cases k with
          | zero => rfl
          | succ k => rfl)
  generalize flTo g = ft at HL HT H5 H0
  generalize g.flag = fg at H5 ⊢
  generalize flAt g = fa at HT HA
  obtain ⟨fp, tp, sq, ak, syn, fin, rst, has, win, mss, sacks, bl, s⟩ := g
  dsimp only at HF HA ⊢
  have hB := ((Below.refl w.heap.size w).alloc (Nat.le_refl _) (.cells #[.int .i64 fp, .int .i64 tp, .int .i64 sq, .int .i64 ak, .bool syn, .bool fin, .bool rst, .bool has, .int .i64 win, .int .i64 mss, .bool sacks, .slice a bl.length cap, .string S] 57)).alloc (by simp) (.cells #[.int .i64 1, .int .i64 2, .int .i64 4, .int .i64 8, .int .i64 16] 126)
  have HB := Lib.hid hB
  clear hB
  go_enter Try.func69, Try.ntmps69
  go_wp2_with fail
  refine (HF.out _).mono ?_
  rintro e w1 ⟨rfl, hb1⟩
  have hbits : ∀ i (v : Value), (#[.int .i64 1, .int .i64 2, .int .i64 4, .int .i64 8, .int .i64 16] : Array Value)[i]? = some v → ∀ W, Below w.heap.size w W → W.heap[w.heap.size + 1]? = some (.cells #[.int .i64 1, .int .i64 2, .int .i64 4, .int .i64 8, .int .i64 16] 126 (0, 0)) → W.cell? ⟨w.heap.size + 1, i, none⟩ = some v := fun i v hv W _ hW => by rw [cell_of_row _ _ _ _ _ _ hW]; exact hv
  have hrow : w1.heap[w.heap.size + 1]? = some (.cells #[.int .i64 1, .int .i64 2, .int .i64 4, .int .i64 8, .int .i64 16] 126 (0, 0)) := by
    rw [hb1.block _ (by simp), show w.heap.size + 1 = (w.alloc (.cells #[.int .i64 fp, .int .i64 tp, .int .i64 sq, .int .i64 ak, .bool syn, .bool fin, .bool rst, .bool has, .int .i64 win, .int .i64 mss, .bool sacks, .slice a bl.length cap, .string S] 57)).heap.size by simp]
    exact heap_alloc_new _ _
  have hbw := HB.out.trans (hb1.mono HB.out.size)
  have c0 := hbits 0 _ rfl _ hbw hrow
  have c1 := hbits 1 _ rfl _ hbw hrow
  have c2 := hbits 2 _ rfl _ hbw hrow
  have c3 := hbits 3 _ rfl _ hbw hrow
  have c4 := hbits 4 _ rfl _ hbw hrow
  have HBW := Lib.hid hbw
  clear hbw hrow hbits hb1 HB HF
  go_wp2_with fail
  go_loop [4, 10] (fun sv iv => ∃ k : Nat, k ≤ 5 ∧ iv = .int .i64 k ∧ sv = .int .i64 (ft k : Nat)) (fun _ iv => 5 - (intOf iv).toNat)
  case atStart => exact ⟨0, by omega, rfl, by rw [H0.out]; rfl⟩
  case round =>
    obtain ⟨k, hk, rfl, rfl⟩ := hrel
    by_cases hlt : k < 5
    · have hb0 := HL.out k hk
      have HN := Lib.hid (HT.out k)
      have HK := Lib.hid (HA.out k)
      generalize ft k = fk at HN hb0 ⊢
      have hb1 : (fk : Int) ≤ 31 := by omega
      rcases (show k = 0 ∨ k = 1 ∨ k = 2 ∨ k = 3 ∨ k = 4 by omega) with rfl | rfl | rfl | rfl | rfl
      · have ix : ∀ W, (Instr.index 127 (.agg #[.bool syn, .bool fin, .bool rst, .bool has, .bool sacks]) (.int .i64 0)).run Try.prog W = .ok (.bool syn) W := fun _ => by kernel_rfl
        cases syn with
        | true =>
          go_wp2_with fail
          exact ⟨⟨1, by omega, by simp, by rw [HN.out, HK.out]; simp [flN]⟩, by simp [intOf]⟩
        | false =>
          go_wp2_with fail
          exact ⟨⟨1, by omega, by simp, by rw [HN.out, HK.out]; simp [flN]⟩, by simp [intOf]⟩
      · have ix : ∀ W, (Instr.index 127 (.agg #[.bool syn, .bool fin, .bool rst, .bool has, .bool sacks]) (.int .i64 1)).run Try.prog W = .ok (.bool fin) W := fun _ => by kernel_rfl
        cases fin with
        | true =>
          go_wp2_with fail
          exact ⟨⟨2, by omega, by simp, by rw [HN.out, HK.out]; simp [flN]⟩, by simp [intOf]⟩
        | false =>
          go_wp2_with fail
          exact ⟨⟨2, by omega, by simp, by rw [HN.out, HK.out]; simp [flN]⟩, by simp [intOf]⟩
      · have ix : ∀ W, (Instr.index 127 (.agg #[.bool syn, .bool fin, .bool rst, .bool has, .bool sacks]) (.int .i64 2)).run Try.prog W = .ok (.bool rst) W := fun _ => by kernel_rfl
        cases rst with
        | true =>
          go_wp2_with fail
          exact ⟨⟨3, by omega, by simp, by rw [HN.out, HK.out]; simp [flN]⟩, by simp [intOf]⟩
        | false =>
          go_wp2_with fail
          exact ⟨⟨3, by omega, by simp, by rw [HN.out, HK.out]; simp [flN]⟩, by simp [intOf]⟩
      · have ix : ∀ W, (Instr.index 127 (.agg #[.bool syn, .bool fin, .bool rst, .bool has, .bool sacks]) (.int .i64 3)).run Try.prog W = .ok (.bool has) W := fun _ => by kernel_rfl
        cases has with
        | true =>
          go_wp2_with fail
          exact ⟨⟨4, by omega, by simp, by rw [HN.out, HK.out]; simp [flN]⟩, by simp [intOf]⟩
        | false =>
          go_wp2_with fail
          exact ⟨⟨4, by omega, by simp, by rw [HN.out, HK.out]; simp [flN]⟩, by simp [intOf]⟩
      · have ix : ∀ W, (Instr.index 127 (.agg #[.bool syn, .bool fin, .bool rst, .bool has, .bool sacks]) (.int .i64 4)).run Try.prog W = .ok (.bool sacks) W := fun _ => by kernel_rfl
        cases sacks with
        | true =>
          go_wp2_with fail
          exact ⟨⟨5, by omega, by simp, by rw [HN.out, HK.out]; simp [flN]⟩, by simp [intOf]⟩
        | false =>
          go_wp2_with fail
          exact ⟨⟨5, by omega, by simp, by rw [HN.out, HK.out]; simp [flN]⟩, by simp [intOf]⟩
    · obtain rfl : k = 5 := by omega
      rw [H5.out]
      go_wp2_with fail
      go_ret
      exact ⟨rfl, HBW.out⟩
end Go.Proofs.Ytfeppkgcimgkeaa
