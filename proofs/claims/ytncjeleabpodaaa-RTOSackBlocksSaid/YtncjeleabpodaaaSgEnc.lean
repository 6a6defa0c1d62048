/- segment.flags, flagByte. segment.put at two and at three numbers. segment.write. segment.Encode, at valid addresses and segments. -/
import Derived.Test.YtncjeleabpodaaaSgVal
import Derived.Laws.Rows
import Derived.Test.YtncjeleabpodaaaWireCk
namespace Go.Proofs.Ytncjeleabpodaaa
open Go.RowKit
set_option maxRecDepth 100000 in
set_option maxHeartbeats 2000000 in
theorem flags_any (g : Sg) (a : Option Addr) (cap : Nat) (S : ByteArray) (w : World) :
    Calls Try.prog 105 #[.agg #[.int .i64 g.fp, .int .i64 g.tp, .int .i64 g.sq, .int .i64 g.ak, .bool g.syn, .bool g.fin, .bool g.rst, .bool g.has, .int .i64 g.win, .int .i64 g.mss, .bool g.sacks, .slice a g.bl.length cap, .string S]] w fun e w' => e = .returned (.agg #[.bool g.syn, .bool g.fin, .bool g.rst, .bool g.has, .bool g.sacks]) ∧ Below w.heap.size w w' := by
  obtain ⟨fp, tp, sq, ak, syn, fin, rst, has, win, mss, sacks, bl, s⟩ := g
  dsimp only
  go_enter Try.func105, Try.ntmps105
  go_wp2_with fail
  have hbl := (((Below.refl w.heap.size w).alloc (Nat.le_refl _) (.cells #[.int .i64 fp, .int .i64 tp, .int .i64 sq, .int .i64 ak, .bool syn, .bool fin, .bool rst, .bool has, .int .i64 win, .int .i64 mss, .bool sacks, .slice a bl.length cap, .string S] 31)).alloc (by simp) (.cells #[.bool syn, .bool fin, .bool rst, .bool has, .bool sacks] 138))
  refine bodyPost_ret (v := .agg #[.bool syn, .bool fin, .bool rst, .bool has, .bool sacks]) (by simp [results, Try.results105, go_sem]) rfl ⟨rfl, hbl⟩
def flAt (g : Sg) : Nat → Bool
  | 0 => g.syn | 1 => g.fin | 2 => g.rst | 3 => g.has | _ => g.sacks
def flTo (g : Sg) : Nat → Nat
  | 0 => 0
  | k + 1 => flTo g k + flN (flAt g k) (2 ^ k)
theorem flTo_five (g : Sg) : flTo g 5 = g.flag := by
  unfold Sg.flag
  simp [flTo, flAt]
theorem flTo_le (g : Sg) (k : Nat) (h : k ≤ 5) : flTo g k ≤ 31 := by
  have : ∀ k, k ≤ 5 → flTo g k ≤ 2 ^ k - 1 := by
    intro k hk
    induction k with
    | zero => simp [flTo]
    | succ k ih =>
      have := ih (by omega)
      have h2 : flN (flAt g k) (2 ^ k) ≤ 2 ^ k := by
        unfold flN
        split
        · exact Nat.le_refl _
        · exact Nat.zero_le _
      show flTo g k + flN (flAt g k) (2 ^ k) ≤ _
      have h3 : 1 ≤ 2 ^ k := Nat.one_le_two_pow
      rw [Nat.pow_succ]
      omega
  have h5 := this k h
  have : 2 ^ k ≤ 2 ^ 5 := Nat.pow_le_pow_right (by omega) h
  omega
set_option maxRecDepth 100000 in
set_option maxHeartbeats 2000000 in
theorem flagByte_any (g : Sg) (a : Option Addr) (cap : Nat) (S : ByteArray) (w : World) :
    Calls Try.prog 85 #[.agg #[.int .i64 g.fp, .int .i64 g.tp, .int .i64 g.sq, .int .i64 g.ak, .bool g.syn, .bool g.fin, .bool g.rst, .bool g.has, .int .i64 g.win, .int .i64 g.mss, .bool g.sacks, .slice a g.bl.length cap, .string S]] w fun e w' => e = .returned (.int .i64 (g.flag : Nat)) ∧ Below w.heap.size w w' := by
  have HF := Lib.hid (fun W => flags_any g a cap S W)
  have HL := Lib.hid (flTo_le g)
  have HT := Lib.hid (fun k => show flTo g (k + 1) = flTo g k + flN (flAt g k) (2 ^ k) from rfl)
  have H5 := Lib.hid (flTo_five g)
  have H0 := Lib.hid (show flTo g 0 = 0 from rfl)
  have HA := Lib.hid (fun k => show flAt g k = (match k with | 0 => g.syn | 1 => g.fin | 2 => g.rst | 3 => g.has | _ => g.sacks) by cases k with
    | zero => rfl
    | succ k => cases k with
      | zero => rfl
      | succ k => cases k with
        | zero => rfl
        | succ k => cases k with
          | zero => rfl
          | succ k => rfl)
  generalize flTo g = ft at HL HT H5 H0
  generalize g.flag = fg at H5 ⊢
  generalize flAt g = fa at HT HA
  obtain ⟨fp, tp, sq, ak, syn, fin, rst, has, win, mss, sacks, bl, s⟩ := g
  dsimp only at HF HA ⊢
  have hB := ((Below.refl w.heap.size w).alloc (Nat.le_refl _) (.cells #[.int .i64 fp, .int .i64 tp, .int .i64 sq, .int .i64 ak, .bool syn, .bool fin, .bool rst, .bool has, .int .i64 win, .int .i64 mss, .bool sacks, .slice a bl.length cap, .string S] 31)).alloc (by simp) (.cells #[.int .i64 1, .int .i64 2, .int .i64 4, .int .i64 8, .int .i64 16] 137)
  have HB := Lib.hid hB
  clear hB
  go_enter Try.func85, Try.ntmps85
  go_wp2_with fail
  refine (HF.out _).mono ?_
  rintro e w1 ⟨rfl, hb1⟩
  have hbits : ∀ i (v : Value), (#[.int .i64 1, .int .i64 2, .int .i64 4, .int .i64 8, .int .i64 16] : Array Value)[i]? = some v → ∀ W, Below w.heap.size w W → W.heap[w.heap.size + 1]? = some (.cells #[.int .i64 1, .int .i64 2, .int .i64 4, .int .i64 8, .int .i64 16] 137 (0, 0)) → W.cell? ⟨w.heap.size + 1, i, none⟩ = some v := fun i v hv W _ hW => by rw [cell_of_row _ _ _ _ _ _ hW]; exact hv
  have hrow : w1.heap[w.heap.size + 1]? = some (.cells #[.int .i64 1, .int .i64 2, .int .i64 4, .int .i64 8, .int .i64 16] 137 (0, 0)) := by
    rw [hb1.block _ (by simp), show w.heap.size + 1 = (w.alloc (.cells #[.int .i64 fp, .int .i64 tp, .int .i64 sq, .int .i64 ak, .bool syn, .bool fin, .bool rst, .bool has, .int .i64 win, .int .i64 mss, .bool sacks, .slice a bl.length cap, .string S] 31)).heap.size by simp]
    exact heap_alloc_new _ _
  have hbw := HB.out.trans (hb1.mono HB.out.size)
  have c0 := hbits 0 _ rfl _ hbw hrow
  have c1 := hbits 1 _ rfl _ hbw hrow
  have c2 := hbits 2 _ rfl _ hbw hrow
  have c3 := hbits 3 _ rfl _ hbw hrow
  have c4 := hbits 4 _ rfl _ hbw hrow
  have HBW := Lib.hid hbw
  clear hbw hrow hbits hb1 HB HF
  go_wp2_with fail
  go_loop [4, 10] (fun sv iv => ∃ k : Nat, k ≤ 5 ∧ iv = .int .i64 k ∧ sv = .int .i64 (ft k : Nat)) (fun _ iv => 5 - (intOf iv).toNat)
  case atStart => exact ⟨0, by omega, rfl, by rw [H0.out]; rfl⟩
  case round =>
    obtain ⟨k, hk, rfl, rfl⟩ := hrel
    by_cases hlt : k < 5
    · have hb0 := HL.out k hk
      have HN := Lib.hid (HT.out k)
      have HK := Lib.hid (HA.out k)
      generalize ft k = fk at HN hb0 ⊢
      have hb1 : (fk : Int) ≤ 31 := by omega
      rcases (show k = 0 ∨ k = 1 ∨ k = 2 ∨ k = 3 ∨ k = 4 by omega) with rfl | rfl | rfl | rfl | rfl
      · have ix : ∀ W, (Instr.index 138 (.agg #[.bool syn, .bool fin, .bool rst, .bool has, .bool sacks]) (.int .i64 0)).run Try.prog W = .ok (.bool syn) W := fun _ => by kernel_rfl
        cases syn with
        | true =>
          go_wp2_with fail
          exact ⟨⟨1, by omega, by simp, by rw [HN.out, HK.out]; simp [flN]⟩, by simp [intOf]⟩
        | false =>
          go_wp2_with fail
          exact ⟨⟨1, by omega, by simp, by rw [HN.out, HK.out]; simp [flN]⟩, by simp [intOf]⟩
      · have ix : ∀ W, (Instr.index 138 (.agg #[.bool syn, .bool fin, .bool rst, .bool has, .bool sacks]) (.int .i64 1)).run Try.prog W = .ok (.bool fin) W := fun _ => by kernel_rfl
        cases fin with
        | true =>
          go_wp2_with fail
          exact ⟨⟨2, by omega, by simp, by rw [HN.out, HK.out]; simp [flN]⟩, by simp [intOf]⟩
        | false =>
          go_wp2_with fail
          exact ⟨⟨2, by omega, by simp, by rw [HN.out, HK.out]; simp [flN]⟩, by simp [intOf]⟩
      · have ix : ∀ W, (Instr.index 138 (.agg #[.bool syn, .bool fin, .bool rst, .bool has, .bool sacks]) (.int .i64 2)).run Try.prog W = .ok (.bool rst) W := fun _ => by kernel_rfl
        cases rst with
        | true =>
          go_wp2_with fail
          exact ⟨⟨3, by omega, by simp, by rw [HN.out, HK.out]; simp [flN]⟩, by simp [intOf]⟩
        | false =>
          go_wp2_with fail
          exact ⟨⟨3, by omega, by simp, by rw [HN.out, HK.out]; simp [flN]⟩, by simp [intOf]⟩
      · have ix : ∀ W, (Instr.index 138 (.agg #[.bool syn, .bool fin, .bool rst, .bool has, .bool sacks]) (.int .i64 3)).run Try.prog W = .ok (.bool has) W := fun _ => by kernel_rfl
        cases has with
        | true =>
          go_wp2_with fail
          exact ⟨⟨4, by omega, by simp, by rw [HN.out, HK.out]; simp [flN]⟩, by simp [intOf]⟩
        | false =>
          go_wp2_with fail
          exact ⟨⟨4, by omega, by simp, by rw [HN.out, HK.out]; simp [flN]⟩, by simp [intOf]⟩
      · have ix : ∀ W, (Instr.index 138 (.agg #[.bool syn, .bool fin, .bool rst, .bool has, .bool sacks]) (.int .i64 4)).run Try.prog W = .ok (.bool sacks) W := fun _ => by kernel_rfl
        cases sacks with
        | true =>
          go_wp2_with fail
          exact ⟨⟨5, by omega, by simp, by rw [HN.out, HK.out]; simp [flN]⟩, by simp [intOf]⟩
        | false =>
          go_wp2_with fail
          exact ⟨⟨5, by omega, by simp, by rw [HN.out, HK.out]; simp [flN]⟩, by simp [intOf]⟩
    · obtain rfl : k = 5 := by omega
      rw [H5.out]
      go_wp2_with fail
      go_ret
      exact ⟨rfl, HBW.out⟩
end Go.Proofs.Ytncjeleabpodaaa
namespace Go.Proofs.Ytncjeleabpodaaa
open Go.RowKit
def FitsB (b : Nat) (x : Int) : Prop := 0 ≤ x ∧ x.toNat < 256 ^ b ∧ x ≤ 4294967295
theorem fits1 {x : Int} (h1 : 0 ≤ x) (h2 : x ≤ 255) : FitsB 1 x := ⟨h1, by show x.toNat < 256; omega, by omega⟩
theorem fits2 {x : Int} (h1 : 0 ≤ x) (h2 : x ≤ 65535) : FitsB 2 x := ⟨h1, by show x.toNat < 65536; omega, by omega⟩
theorem fits4 {x : Int} (h1 : 0 ≤ x) (h2 : x ≤ 4294967295) : FitsB 4 x := ⟨h1, by show x.toNat < 4294967296; omega, h2⟩
theorem segput2 (b : Nat) (hb1 : 1 ≤ b) (hb4 : b ≤ 4) (x y : Int) (hx : FitsB b x) (hy : FitsB b y) (W : World) (t : TypeId) (C : Nat) (hC : C = W.heap.size) :
    Calls Try.prog 49 #[.int .i64 b, .slice (some ⟨C, 0, none⟩) 2 2] (W.alloc (.cells #[.int .i64 x, .int .i64 y] t)) fun e w' => e = .returned (.string ⟨(be b x.toNat ++ be b y.toNat).toArray⟩) ∧ Below W.heap.size W w' := by
  subst hC
  obtain ⟨x1, x2, x3⟩ := hx
  obtain ⟨y1, y2, y3⟩ := hy
  have h := segput_any b W.heap.size [x.toNat, y.toNat] 2 (W.alloc (.cells #[.int .i64 x, .int .i64 y] t)) hb1 hb4 (by show 2 ≤ 8; omega) (by
    intro n hn
    rcases List.mem_cons.1 hn with rfl | hn
    · exact ⟨x2, by omega⟩
    · rcases List.mem_cons.1 hn with rfl | hn
      · exact ⟨y2, by omega⟩
      · cases hn) ⟨by simp, fun i hi => by
    rw [cell_of_row _ _ _ _ _ _ (heap_alloc_new _ _)]
    have hi2 : i < 2 := hi
    rcases (show i = 0 ∨ i = 1 by omega) with rfl | rfl
    · show some (Value.int .i64 x) = some (Value.int .i64 ((x.toNat : Nat) : Int)); rw [Int.toNat_of_nonneg x1]
    · show some (Value.int .i64 y) = some (Value.int .i64 ((y.toNat : Nat) : Int)); rw [Int.toNat_of_nonneg y1]⟩
  refine Calls.mono (show Calls Try.prog 49 #[.int .i64 b, .slice (some ⟨W.heap.size, 0, none⟩) 2 2] _ _ from h) ?_
  rintro e w' ⟨he, hb⟩
  refine ⟨by rw [he]; show _ = Ending.returned (.string ⟨(be b x.toNat ++ be b y.toNat).toArray⟩); unfold putL putL putL; rw [List.append_nil], (sgBelow W _).trans (hb.mono (by simp))⟩
theorem segput3 (b : Nat) (hb1 : 1 ≤ b) (hb4 : b ≤ 4) (x y z : Int) (hx : FitsB b x) (hy : FitsB b y) (hz : FitsB b z) (W : World) (t : TypeId) (C : Nat) (hC : C = W.heap.size) :
    Calls Try.prog 49 #[.int .i64 b, .slice (some ⟨C, 0, none⟩) 3 3] (W.alloc (.cells #[.int .i64 x, .int .i64 y, .int .i64 z] t)) fun e w' => e = .returned (.string ⟨(be b x.toNat ++ (be b y.toNat ++ be b z.toNat)).toArray⟩) ∧ Below W.heap.size W w' := by
  subst hC
  obtain ⟨x1, x2, x3⟩ := hx
  obtain ⟨y1, y2, y3⟩ := hy
  obtain ⟨z1, z2, z3⟩ := hz
  have h := segput_any b W.heap.size [x.toNat, y.toNat, z.toNat] 3 (W.alloc (.cells #[.int .i64 x, .int .i64 y, .int .i64 z] t)) hb1 hb4 (by show 3 ≤ 8; omega) (by
    intro n hn
    rcases List.mem_cons.1 hn with rfl | hn
    · exact ⟨x2, by omega⟩
    · rcases List.mem_cons.1 hn with rfl | hn
      · exact ⟨y2, by omega⟩
      · rcases List.mem_cons.1 hn with rfl | hn
        · exact ⟨z2, by omega⟩
        · cases hn) ⟨by simp, fun i hi => by
    rw [cell_of_row _ _ _ _ _ _ (heap_alloc_new _ _)]
    have hi2 : i < 3 := hi
    rcases (show i = 0 ∨ i = 1 ∨ i = 2 by omega) with rfl | rfl | rfl
    · show some (Value.int .i64 x) = some (Value.int .i64 ((x.toNat : Nat) : Int)); rw [Int.toNat_of_nonneg x1]
    · show some (Value.int .i64 y) = some (Value.int .i64 ((y.toNat : Nat) : Int)); rw [Int.toNat_of_nonneg y1]
    · show some (Value.int .i64 z) = some (Value.int .i64 ((z.toNat : Nat) : Int)); rw [Int.toNat_of_nonneg z1]⟩
  refine Calls.mono (show Calls Try.prog 49 #[.int .i64 b, .slice (some ⟨W.heap.size, 0, none⟩) 3 3] _ _ from h) ?_
  rintro e w' ⟨he, hb⟩
  refine ⟨by rw [he]; unfold putL putL putL putL; rw [List.append_nil], (sgBelow W _).trans (hb.mono (by simp))⟩
end Go.Proofs.Ytncjeleabpodaaa
namespace Go.Proofs.Ytncjeleabpodaaa
open Go.RowKit
set_option maxRecDepth 100000 in
set_option maxHeartbeats 4000000 in
theorem segwrite_any (g : Sg) (n₀ : Nat) (a : Option Addr) (cap : Nat) (S : ByteArray) (sum : Nat) (w : World) (ok : g.Ok) (hS : S.data.toList = g.s) (hc : SpAt w n₀ a g.bl) (hn : n₀ ≤ w.heap.size) (hsum : sum < 65536) :
    Calls Try.prog 47 #[.agg #[.int .i64 g.fp, .int .i64 g.tp, .int .i64 g.sq, .int .i64 g.ak, .bool g.syn, .bool g.fin, .bool g.rst, .bool g.has, .int .i64 g.win, .int .i64 g.mss, .bool g.sacks, .slice a g.bl.length cap, .string S], .int .i64 sum] w fun e w' => e = .returned (.string ⟨(g.wr sum).toArray⟩) ∧ Below w.heap.size w w' := by
  have HV := Lib.hid ok
  have HFB := Lib.hid (fun W => flagByte_any g a cap S W)
  have HG := Lib.hid (show g.wr sum = g.head ++ be 2 sum ++ blkB g.bl ++ g.s from rfl)
  have HH := Lib.hid (show g.head = be 2 g.fp.toNat ++ be 2 g.tp.toNat ++ be 4 g.sq.toNat ++ be 4 g.ak.toNat ++ be 1 g.flag ++ be 1 g.bl.length ++ be 2 g.win.toNat ++ be 2 g.mss.toNat from rfl)
  have HMS := Lib.hid (show 0 ≤ g.mss ∧ g.mss ≤ 65535 by
    cases hsy : g.syn with
    | false => have := (ok.mss hsy).1; omega
    | true => rcases ok.mssS hsy with h | h <;> omega)
  have h3 := ok.blen
  have hsl : S.size ≤ 1024 := by
    have := ok.slen
    have e : S.data.toList.length = S.size := by rw [Array.length_toList]; rfl
    rw [hS] at e
    omega
  have HSS := Lib.hid hS
  have HSP := Lib.hid hc
  have HFL := Lib.hid g.flag_lt
  generalize hgw : g.wr sum = gw at HG ⊢
  clear hgw
  generalize g.head = gh at HG HH
  generalize hfl : g.flag = fl at HFB HFL HH
  clear hfl
  have HN := Lib.hid (SgAt.new w g a cap S)
  obtain ⟨fp, tp, sq, ak, syn, fin, rst, has, win, mss, sacks, bl, s⟩ := g
  clear ok hS hc
  dsimp only at HFB HG HH HN HMS h3 HSS HSP ⊢
  have HWB := Lib.hid (sgBelow w (.cells #[.int .i64 fp, .int .i64 tp, .int .i64 sq, .int .i64 ak, .bool syn, .bool fin, .bool rst, .bool has, .int .i64 win, .int .i64 mss, .bool sacks, .slice a bl.length cap, .string S] 31))
  go_enter Try.func47, Try.ntmps47
  go_wp2_with fail
  generalize hW1 : w.alloc (.cells #[.int .i64 fp, .int .i64 tp, .int .i64 sq, .int .i64 ak, .bool syn, .bool fin, .bool rst, .bool has, .int .i64 win, .int .i64 mss, .bool sacks, .slice a bl.length cap, .string S] 31) = W1 at HN HWB ⊢
  have hsz1 : W1.heap.size = w.heap.size + 1 := by rw [← hW1]; simp
  have HFR := Lib.hid (Lib.fresh_isBuilder 118 5 W1)
  have HA := Lib.hid ((HN.out).below (sgBelow W1 (.cells #[.pointer none, .slice none 0 0] 118)) HN.out.lt)
  have HW := Lib.hid (HWB.out.trans ((sgBelow W1 (.cells #[.pointer none, .slice none 0 0] 118)).mono (by omega)))
  have hsz2 : (W1.alloc (.cells #[.pointer none, .slice none 0 0] 118)).heap.size = w.heap.size + 1 + 1 := by simp; omega
  obtain ⟨B, hB⟩ : ∃ B, B = w.heap.size + 1 := ⟨_, rfl⟩
  rw [hsz1, ← hB] at HFR
  rw [← hB] at hsz2 ⊢
  generalize W1.alloc (.cells #[.pointer none, .slice none 0 0] 118) = W2 at HFR HA HW hsz2 ⊢
  have hwB : w.heap.size < B := by omega
  have hwB2 : w.heap.size ≤ B := by omega
  have HSZ2 := Lib.hid hsz2
  have hsz : B ≤ W2.heap.size := by omega
  obtain ⟨acc0, hacc⟩ : ∃ acc0 : List UInt8, acc0 = [] := ⟨_, rfl⟩
  have HACC := Lib.hid hacc
  have HI : Hid (Lib.IsBuilder 118 5 B B (Lib.byteCells acc0) W2) := Lib.hid (by rw [hacc]; exact HFR.out)
  have hal : acc0.length ≤ 0 := by rw [hacc]; exact Nat.le_refl _
  clear hacc HFR hsz1 hW1 HN HWB hB hsz2
  obtain ⟨z0, z1, z2, z3, z4, z5, z6, z7, z8, z9, z10, z11, z12⟩ := HA.out.cells
  dsimp only at z0 z1 z2 z3 z4 z5 z6 z7 z8 z9 z10 z11 z12
  refine (segput2 2 (by omega) (by omega) fp tp (fits2 (by have := HV.out.fp.1; dsimp only at this; omega) HV.out.fp.2) (fits2 (by have := HV.out.tp.1; dsimp only at this; omega) HV.out.tp.2) W2 _ _ HSZ2.out.symm).mono ?_
  rintro e u1a ⟨rfl, hb1⟩
  obtain ⟨t1, hs1⟩ : ∃ t1 : ByteArray, t1 = ⟨(be 2 fp.toNat ++ be 2 tp.toNat).toArray⟩ := ⟨_, rfl⟩
  rw [← hs1]
  have HS1 := Lib.hid (show t1.data.toList = be 2 fp.toNat ++ be 2 tp.toNat by rw [hs1])
  have hs1l : t1.size ≤ 4 := by rw [hs1, ba_size]; simp only [List.length_append, be_length]; omega
  replace HA := Lib.hid (HA.out.below hb1 HA.out.lt)
  replace HW := Lib.hid (HW.out.trans (hb1.mono HW.out.size))
  replace hsz := Nat.le_trans hsz hb1.size
  replace HI := Lib.hid (bld_below HI.out hb1)
  clear hs1 hb1 z0 z1 z2 z3 z4 z5 z6 z7 z8 z9 z10 z11 z12
  obtain ⟨z0, z1, z2, z3, z4, z5, z6, z7, z8, z9, z10, z11, z12⟩ := HA.out.cells
  dsimp only at z0 z1 z2 z3 z4 z5 z6 z7 z8 z9 z10 z11 z12
  go_wp2_with fail
  refine (writeString_any B B (Lib.byteCells acc0) t1 _ HI.out (by rw [Lib.byteCells_length]; omega) hsz).mono ?_
  rintro e u1 ⟨rfl, hI, hb2⟩
  rw [show Lib.strCells t1 = Lib.byteCells t1.data.toList from rfl, ← Lib.byteCells_append] at hI
  have hal2 : (acc0 ++ t1.data.toList).length ≤ 4 := by rw [List.length_append, show t1.data.toList.length = t1.size by rw [Array.length_toList]; rfl]; omega
  replace HACC := Lib.hid (show acc0 ++ t1.data.toList = (be 2 fp.toNat ++ be 2 tp.toNat) by rw [HS1.out, HACC.out]; rfl)
  clear z0 z1 z2 z3 z4 z5 z6 z7 z8 z9 z10 z11 z12
  replace HA := Lib.hid (HA.out.below hb2 hwB)
  replace HW := Lib.hid (HW.out.trans (hb2.mono hwB2))
  replace hsz := Nat.le_trans hsz hb2.size
  replace HI := Lib.hid hI
  clear hI hb2 HS1 hal hs1l
  generalize acc0 ++ t1.data.toList = acc1 at HI HACC hal2
  clear acc0
  have hal := hal2
  clear hal2
  obtain ⟨z0, z1, z2, z3, z4, z5, z6, z7, z8, z9, z10, z11, z12⟩ := HA.out.cells
  dsimp only at z0 z1 z2 z3 z4 z5 z6 z7 z8 z9 z10 z11 z12
  go_wp2_with fail
  refine (segput2 4 (by omega) (by omega) sq ak (fits4 HV.out.sq.1 HV.out.sq.2) (fits4 HV.out.ak.1 HV.out.ak.2) u1 _ _ rfl).mono ?_
  rintro e u2a ⟨rfl, hb1⟩
  obtain ⟨t2, hs1⟩ : ∃ t2 : ByteArray, t2 = ⟨(be 4 sq.toNat ++ be 4 ak.toNat).toArray⟩ := ⟨_, rfl⟩
  rw [← hs1]
  have HS1 := Lib.hid (show t2.data.toList = be 4 sq.toNat ++ be 4 ak.toNat by rw [hs1])
  have hs1l : t2.size ≤ 8 := by rw [hs1, ba_size]; simp only [List.length_append, be_length]; omega
  replace HA := Lib.hid (HA.out.below hb1 HA.out.lt)
  replace HW := Lib.hid (HW.out.trans (hb1.mono HW.out.size))
  replace hsz := Nat.le_trans hsz hb1.size
  replace HI := Lib.hid (bld_below HI.out hb1)
  clear hs1 hb1 z0 z1 z2 z3 z4 z5 z6 z7 z8 z9 z10 z11 z12
  obtain ⟨z0, z1, z2, z3, z4, z5, z6, z7, z8, z9, z10, z11, z12⟩ := HA.out.cells
  dsimp only at z0 z1 z2 z3 z4 z5 z6 z7 z8 z9 z10 z11 z12
  go_wp2_with fail
  refine (writeString_any B B (Lib.byteCells acc1) t2 _ HI.out (by rw [Lib.byteCells_length]; omega) hsz).mono ?_
  rintro e u2 ⟨rfl, hI, hb2⟩
  rw [show Lib.strCells t2 = Lib.byteCells t2.data.toList from rfl, ← Lib.byteCells_append] at hI
  have hal2 : (acc1 ++ t2.data.toList).length ≤ 12 := by rw [List.length_append, show t2.data.toList.length = t2.size by rw [Array.length_toList]; rfl]; omega
  replace HACC := Lib.hid (show acc1 ++ t2.data.toList = (be 2 fp.toNat ++ be 2 tp.toNat) ++ (be 4 sq.toNat ++ be 4 ak.toNat) by rw [HS1.out, HACC.out])
  clear z0 z1 z2 z3 z4 z5 z6 z7 z8 z9 z10 z11 z12
  replace HA := Lib.hid (HA.out.below hb2 hwB)
  replace HW := Lib.hid (HW.out.trans (hb2.mono hwB2))
  replace hsz := Nat.le_trans hsz hb2.size
  replace HI := Lib.hid hI
  clear hI hb2 HS1 hal hs1l
  generalize acc1 ++ t2.data.toList = acc2 at HI HACC hal2
  clear acc1
  have hal := hal2
  clear hal2
  obtain ⟨z0, z1, z2, z3, z4, z5, z6, z7, z8, z9, z10, z11, z12⟩ := HA.out.cells
  dsimp only at z0 z1 z2 z3 z4 z5 z6 z7 z8 z9 z10 z11 z12
  go_wp2_with fail
  clear z0 z1 z2 z3 z4 z5 z6 z7 z8 z9 z10 z11 z12
  refine wp_region_held_drew (S := (SgAt w.heap.size ⟨fp, tp, sq, ak, syn, fin, rst, has, win, mss, sacks, bl, s⟩ a cap S)) (by kernel_rfl) (show SgAt _ _ a cap S u2.drew from HA.out) (fun hHeld => ?_)
  refine wpAnyH_take (i := 0) (v := ?_) (by simp only [List.getElem?_toArray, List.getElem?_cons_zero]; rfl) (by kernel_rfl) (by kernel_rfl) (by kernel_rfl) (by exact fun _ _ _ h => h) (Or.inl ⟨by rfl, ?_⟩) (by assumption) ?_
  rotate_left 1
  · intro w hSw; (obtain ⟨z0, z1, z2, z3, z4, z5, z6, z7, z8, z9, z10, z11, z12⟩ := SgAt.cells hSw; dsimp only at z0 z1 z2 z3 z4 z5 z6 z7 z8 z9 z10 z11 z12); go_simp; (try with_reducible rfl)
  (try simp only [Act.put, List.setIfInBounds_toArray, List.set_cons_zero, List.set_cons_succ])
  refine wpAnyH_take (i := 2) (v := ?_) (by simp only [List.getElem?_toArray, List.getElem?_cons_succ, List.getElem?_cons_zero]; rfl) (by kernel_rfl) (by kernel_rfl) (by kernel_rfl) (by exact fun _ _ _ h => h) (Or.inl ⟨by rfl, ?_⟩) (by assumption) ?_
  rotate_left 1
  · intro w hSw; (obtain ⟨z0, z1, z2, z3, z4, z5, z6, z7, z8, z9, z10, z11, z12⟩ := SgAt.cells hSw; dsimp only at z0 z1 z2 z3 z4 z5 z6 z7 z8 z9 z10 z11 z12); go_simp; (try with_reducible rfl)
  (try simp only [Act.put, List.setIfInBounds_toArray, List.set_cons_zero, List.set_cons_succ])
  refine wpAnyH_take (i := 3) (v := ?_) (by simp only [List.getElem?_toArray, List.getElem?_cons_succ, List.getElem?_cons_zero]; rfl) (by kernel_rfl) (by kernel_rfl) (by kernel_rfl) (by exact fun _ _ _ h => h) (Or.inl ⟨by rfl, ?_⟩) (by assumption) ?_
  rotate_left 1
  · intro w hSw; (obtain ⟨z0, z1, z2, z3, z4, z5, z6, z7, z8, z9, z10, z11, z12⟩ := SgAt.cells hSw; dsimp only at z0 z1 z2 z3 z4 z5 z6 z7 z8 z9 z10 z11 z12); go_simp; (try with_reducible rfl)
  (try simp only [Act.put, List.setIfInBounds_toArray, List.set_cons_zero, List.set_cons_succ])
  refine wpAnyH_take (i := 4) (v := ?_) (by simp only [List.getElem?_toArray, List.getElem?_cons_succ, List.getElem?_cons_zero]; rfl) (by kernel_rfl) (by kernel_rfl) (by kernel_rfl) (by exact fun _ _ _ h => h) (Or.inl ⟨by rfl, ?_⟩) (by assumption) ?_
  rotate_left 1
  · intro w hSw; (obtain ⟨z0, z1, z2, z3, z4, z5, z6, z7, z8, z9, z10, z11, z12⟩ := SgAt.cells hSw; dsimp only at z0 z1 z2 z3 z4 z5 z6 z7 z8 z9 z10 z11 z12); go_simp; (try with_reducible rfl)
  (try simp only [Act.put, List.setIfInBounds_toArray, List.set_cons_zero, List.set_cons_succ])
  refine wpAnyH_ready (rs := [1]) (by kernel_rfl) (by simp) ?_
  refine AllReadyH.cons (by simp only [List.getElem?_toArray, List.getElem?_cons_succ, List.getElem?_cons_zero]; rfl) (fun Kq hKq => ?_) AllReadyH.nil
  go_simp
  refine (HFB.out _).mono ?_
  rintro e r1 ⟨rfl, hb1⟩
  replace HA := Lib.hid (HA.out.below ((Below.refl _ _).drew.trans hb1) HA.out.lt)
  replace HW := Lib.hid (HW.out.trans (((Below.refl _ u2).drew.trans hb1).mono HW.out.size))
  replace hsz := Nat.le_trans hsz (show _ ≤ r1.heap.size from hb1.size)
  replace HI := Lib.hid (bld_below HI.out ((Below.refl _ u2).drew.trans hb1))
  clear hb1
  go_simp
  refine hKq.out _ _ (HA.out) (fun hHeld2 => ?_)
  clear hKq Kq hHeld
  (try simp only [Act.put, List.setIfInBounds_toArray, List.set_cons_zero, List.set_cons_succ])
  have hHeld := hHeld2
  clear hHeld2
  refine wpAnyH_ready (rs := [5]) (by kernel_rfl) (by simp) ?_
  refine AllReadyH.cons (by simp only [List.getElem?_toArray, List.getElem?_cons_succ, List.getElem?_cons_zero]; rfl) (fun Kq hKq => ?_) AllReadyH.nil
  go_simp
  refine hKq.out _ _ (HA.out.below (sgBelow r1 _) HA.out.lt) (fun hHeld2 => ?_)
  clear hKq Kq hHeld
  (try simp only [Act.put, List.setIfInBounds_toArray, List.set_cons_zero, List.set_cons_succ])
  have hHeld := hHeld2
  clear hHeld2
  refine wpAnyH_ready (rs := [6]) (by kernel_rfl) (by simp) ?_
  refine AllReadyH.cons (by simp only [List.getElem?_toArray, List.getElem?_cons_succ, List.getElem?_cons_zero]; rfl) (fun Kq hKq => ?_) AllReadyH.nil
  go_simp
  refine (segput2 1 (by omega) (by omega) ((fl : Nat) : Int) ((bl.length : Nat) : Int) (fits1 (by omega) (by have := HFL.out; omega)) (fits1 (by omega) (by omega)) r1 _ _ rfl).mono ?_
  rintro e r2 ⟨rfl, hb1⟩
  obtain ⟨t3, hs1⟩ : ∃ t3 : ByteArray, t3 = ⟨(be 1 ((fl : Nat) : Int).toNat ++ be 1 ((bl.length : Nat) : Int).toNat).toArray⟩ := ⟨_, rfl⟩
  rw [← hs1]
  have HS1 := Lib.hid (show t3.data.toList = be 1 ((fl : Nat) : Int).toNat ++ be 1 ((bl.length : Nat) : Int).toNat by rw [hs1])
  have hs1l : t3.size ≤ 2 := by rw [hs1, ba_size]; simp only [List.length_append, be_length]; omega
  replace HA := Lib.hid (HA.out.below hb1 HA.out.lt)
  replace HW := Lib.hid (HW.out.trans (hb1.mono HW.out.size))
  replace hsz := Nat.le_trans hsz hb1.size
  replace HI := Lib.hid (bld_below HI.out hb1)
  clear hs1 hb1
  go_simp
  refine hKq.out _ _ (HA.out) (fun hHeld2 => ?_)
  clear hKq Kq hHeld
  (try simp only [Act.put, List.setIfInBounds_toArray, List.set_cons_zero, List.set_cons_succ])
  have hHeld := hHeld2
  clear hHeld2
  refine wpAnyH_ready (rs := [7]) (by kernel_rfl) (by simp) ?_
  refine AllReadyH.cons (by simp only [List.getElem?_toArray, List.getElem?_cons_succ, List.getElem?_cons_zero]; rfl) (fun Kq hKq => ?_) AllReadyH.nil
  go_simp
  refine (writeString_any B B (Lib.byteCells acc2) t3 _ HI.out (by rw [Lib.byteCells_length]; omega) hsz).mono ?_
  rintro e u3 ⟨rfl, hI, hb2⟩
  rw [show Lib.strCells t3 = Lib.byteCells t3.data.toList from rfl, ← Lib.byteCells_append] at hI
  have hal2 : (acc2 ++ t3.data.toList).length ≤ 14 := by rw [List.length_append, show t3.data.toList.length = t3.size by rw [Array.length_toList]; rfl]; omega
  replace HACC := Lib.hid (show acc2 ++ t3.data.toList = (be 2 fp.toNat ++ be 2 tp.toNat) ++ (be 4 sq.toNat ++ be 4 ak.toNat) ++ (be 1 ((fl : Nat) : Int).toNat ++ be 1 ((bl.length : Nat) : Int).toNat) by rw [HS1.out, HACC.out])
  replace HA := Lib.hid (HA.out.below hb2 hwB)
  replace HW := Lib.hid (HW.out.trans (hb2.mono hwB2))
  replace hsz := Nat.le_trans hsz hb2.size
  replace HI := Lib.hid hI
  clear hI hb2 HS1 hal hs1l
  generalize acc2 ++ t3.data.toList = acc3 at HI HACC hal2
  clear acc2
  have hal := hal2
  clear hal2
  go_simp
  refine hKq.out _ _ (HA.out) (fun hHeld2 => ?_)
  clear hKq Kq hHeld
  (try simp only [Act.put, List.setIfInBounds_toArray, List.set_cons_zero, List.set_cons_succ])
  have hHeld := hHeld2
  clear hHeld2
  refine wpAnyH_done (by kernel_rfl) ?_ _
  skip
  obtain ⟨z0, z1, z2, z3, z4, z5, z6, z7, z8, z9, z10, z11, z12⟩ := HA.out.cells
  dsimp only at z0 z1 z2 z3 z4 z5 z6 z7 z8 z9 z10 z11 z12
  go_wp2_with fail
  refine (segput3 2 (by omega) (by omega) win mss ((sum : Nat) : Int) (fits2 HV.out.win.1 HV.out.win.2) (fits2 (HMS.out).1 (HMS.out).2) (fits2 (by omega) (by omega)) u3 _ _ rfl).mono ?_
  rintro e u4a ⟨rfl, hb1⟩
  obtain ⟨t4, hs1⟩ : ∃ t4 : ByteArray, t4 = ⟨(be 2 win.toNat ++ (be 2 mss.toNat ++ be 2 ((sum : Nat) : Int).toNat)).toArray⟩ := ⟨_, rfl⟩
  rw [← hs1]
  have HS1 := Lib.hid (show t4.data.toList = be 2 win.toNat ++ (be 2 mss.toNat ++ be 2 ((sum : Nat) : Int).toNat) by rw [hs1])
  have hs1l : t4.size ≤ 6 := by rw [hs1, ba_size]; simp only [List.length_append, be_length]; omega
  replace HA := Lib.hid (HA.out.below hb1 HA.out.lt)
  replace HW := Lib.hid (HW.out.trans (hb1.mono HW.out.size))
  replace hsz := Nat.le_trans hsz hb1.size
  replace HI := Lib.hid (bld_below HI.out hb1)
  clear hs1 hb1 z0 z1 z2 z3 z4 z5 z6 z7 z8 z9 z10 z11 z12
  obtain ⟨z0, z1, z2, z3, z4, z5, z6, z7, z8, z9, z10, z11, z12⟩ := HA.out.cells
  dsimp only at z0 z1 z2 z3 z4 z5 z6 z7 z8 z9 z10 z11 z12
  go_wp2_with fail
  refine (writeString_any B B (Lib.byteCells acc3) t4 _ HI.out (by rw [Lib.byteCells_length]; omega) hsz).mono ?_
  rintro e u4 ⟨rfl, hI, hb2⟩
  rw [show Lib.strCells t4 = Lib.byteCells t4.data.toList from rfl, ← Lib.byteCells_append] at hI
  have hal2 : (acc3 ++ t4.data.toList).length ≤ 20 := by rw [List.length_append, show t4.data.toList.length = t4.size by rw [Array.length_toList]; rfl]; omega
  replace HACC := Lib.hid (show acc3 ++ t4.data.toList = (be 2 fp.toNat ++ be 2 tp.toNat) ++ (be 4 sq.toNat ++ be 4 ak.toNat) ++ (be 1 ((fl : Nat) : Int).toNat ++ be 1 ((bl.length : Nat) : Int).toNat) ++ (be 2 win.toNat ++ (be 2 mss.toNat ++ be 2 ((sum : Nat) : Int).toNat)) by rw [HS1.out, HACC.out])
  clear z0 z1 z2 z3 z4 z5 z6 z7 z8 z9 z10 z11 z12
  replace HA := Lib.hid (HA.out.below hb2 hwB)
  replace HW := Lib.hid (HW.out.trans (hb2.mono hwB2))
  replace hsz := Nat.le_trans hsz hb2.size
  replace HI := Lib.hid hI
  clear hI hb2 HS1 hal hs1l
  generalize acc3 ++ t4.data.toList = acc4 at HI HACC hal2
  clear acc3
  have hal := hal2
  clear hal2
  obtain ⟨z0, z1, z2, z3, z4, z5, z6, z7, z8, z9, z10, z11, z12⟩ := HA.out.cells
  dsimp only at z0 z1 z2 z3 z4 z5 z6 z7 z8 z9 z10 z11 z12
  go_wp2_with fail
  obtain ⟨W4, hW4⟩ : ∃ W4, W4 = u4 := ⟨_, rfl⟩
  subst hW4
  have hal4 : acc4.length ≤ 20 := hal
  clear z0 z1 z2 z3 z4 z5 z6 z7 z8 z9 z10 z11 z12 hal
  go_loopw [41] (fun p wr => ∃ k : Nat, k ≤ bl.length ∧ p = .int .i64 (k : Int) ∧ Lib.IsBuilder 118 5 B B (Lib.byteCells (acc4 ++ blkB (bl.take k))) wr ∧ SgAt w.heap.size ⟨fp, tp, sq, ak, syn, fin, rst, has, win, mss, sacks, bl, s⟩ a cap S wr ∧ Below w.heap.size w wr ∧ B ≤ wr.heap.size) (fun p _ => bl.length - (intOf p).toNat)
  case atStart => exact ⟨0, Nat.zero_le _, rfl, by rw [List.take_zero]; show Lib.IsBuilder _ _ _ _ (Lib.byteCells (acc4 ++ [])) _; rw [List.append_nil]; exact HI.out, HA.out, HW.out, hsz⟩
  case round =>
    clear HI HA HW hsz
    obtain ⟨k, hk, rfl, hI, hA, hWB, hsz⟩ := hrel
    have HI := Lib.hid hI
    have HA := Lib.hid hA
    have HW := Lib.hid hWB
    have hws := hWB.size
    clear hI hA hWB
    have hlen : (acc4 ++ blkB (bl.take k)).length ≤ 44 := by rw [List.length_append, blkB_length, List.length_take]; omega
    by_cases hlt : k < bl.length
    · obtain ⟨bb, off, rfl, hbl, hcs⟩ := HSP.out.cells (by omega)
      obtain ⟨c0, c1⟩ := hcs k hlt
      have hv := HV.out.blk _ (List.getElem_mem hlt)
      have d0 := (HW.out.cell (p := ⟨bb, _, none⟩) (by show bb < w.heap.size; omega)).trans c0
      have d1 := (HW.out.cell (p := ⟨bb, _, none⟩) (by show bb < w.heap.size; omega)).trans c1
      have HS := Lib.hid (show blkB (bl.take (k + 1)) = blkB (bl.take k) ++ (be 4 bl[k].1.toNat ++ be 4 bl[k].2.toNat) by rw [List.take_succ_eq_append_getElem hlt, blkB_append]; show _ ++ (be 4 _ ++ be 4 _ ++ []) = _; rw [List.append_nil])
      clear hcs c0 c1
      have HX : ∃ x, x = bl[k] := ⟨_, rfl⟩
      clear HX
      generalize bl[k] = x at d0 d1 hv HS
      obtain ⟨x1, x2⟩ := x
      obtain ⟨⟨v1, v2⟩, ⟨v3, v4⟩, -⟩ := hv
      dsimp only at d0 d1 v1 v2 v3 v4 HS
      have HF1 := Lib.hid (fits4 v1 v2)
      have HF2 := Lib.hid (fits4 v3 v4)
      clear v1 v2 v3 v4
      have hki : (k : Int) < (bl.length : Int) := by omega
      have hk3 : (k : Int) ≤ 3 := by omega
      obtain ⟨W5, hW5⟩ : ∃ W5, W5 = wr.alloc (.cells #[.int .i64 x1, .int .i64 x2] 51) := ⟨_, rfl⟩
      have hb5 : Below wr.heap.size wr W5 := by rw [hW5]; exact sgBelow _ _
      have hz5 : W5.heap.size = wr.heap.size + 1 := by rw [hW5]; simp
      have HW5 := Lib.hid hW5
      have HZ5 := Lib.hid hz5
      replace HA := Lib.hid (HA.out.below hb5 HA.out.lt)
      replace HW := Lib.hid (HW.out.trans (hb5.mono HW.out.size))
      replace HI := Lib.hid (bld_below HI.out hb5)
      have hszz : B ≤ W5.heap.size := by omega
      clear hW5 hz5 hb5
      go_wp2_with fail
      rw [← HW5.out]
      refine (segput2 4 (by omega) (by omega) x1 x2 HF1.out HF2.out W5 _ _ HZ5.out.symm).mono ?_
      rintro e y1 ⟨rfl, hb1⟩
      obtain ⟨q1, hs1⟩ : ∃ q1 : ByteArray, q1 = ⟨(be 4 x1.toNat ++ be 4 x2.toNat).toArray⟩ := ⟨_, rfl⟩
      rw [← hs1]
      have HS1 := Lib.hid (show q1.data.toList = be 4 x1.toNat ++ be 4 x2.toNat by rw [hs1])
      have hs1l : q1.size ≤ 8 := by rw [hs1, ba_size]; simp only [List.length_append, be_length]; omega
      replace HA := Lib.hid (HA.out.below hb1 HA.out.lt)
      replace HW := Lib.hid (HW.out.trans (hb1.mono HW.out.size))
      replace hszz := Nat.le_trans hszz hb1.size
      replace HI := Lib.hid (bld_below HI.out hb1)
      clear hs1 hb1 d0 d1
      go_wp2_with fail
      refine (writeString_any B B (Lib.byteCells (acc4 ++ blkB (bl.take k))) q1 _ HI.out (by rw [Lib.byteCells_length]; omega) hszz).mono ?_
      rintro e y2 ⟨rfl, hI, hb2⟩
      rw [show Lib.strCells q1 = Lib.byteCells q1.data.toList from rfl, ← Lib.byteCells_append, HS1.out, List.append_assoc, ← HS.out] at hI
      replace HA := Lib.hid (HA.out.below hb2 hwB)
      replace HW := Lib.hid (HW.out.trans (hb2.mono hwB2))
      replace hszz := Nat.le_trans hszz hb2.size
      replace HI := Lib.hid hI
      clear hI hb2
      go_wp2_with fail
      exact ⟨⟨k + 1, hlt, by simp, HI.out, HA.out, HW.out, hszz⟩, by simp [intOf]; omega⟩
    · obtain rfl : k = bl.length := by omega
      have HTK := Lib.hid (show blkB (bl.take bl.length) = blkB bl by rw [List.take_length])
      rw [HTK.out] at HI hlen
      obtain ⟨-, -, -, -, -, -, -, -, -, -, -, -, z12⟩ := HA.out.cells
      try dsimp only at z12
      go_wp2_with fail
      refine (writeString_any B B (Lib.byteCells (acc4 ++ blkB bl)) S _ HI.out (by rw [Lib.byteCells_length]; omega) hsz).mono ?_
      rintro e y2 ⟨rfl, hI, hb2⟩
      rw [show Lib.strCells S = Lib.byteCells S.data.toList from rfl, ← Lib.byteCells_append] at hI
      replace HW := Lib.hid (HW.out.trans (hb2.mono hwB2))
      replace hsz := Nat.le_trans hsz hb2.size
      replace HI := Lib.hid hI
      clear hI hb2 z12
      go_wp2_with fail
      refine (bstring_any B B _ _ HI.out hsz).mono ?_
      rintro e y3 ⟨rfl, hb3⟩
      have HE := Lib.hid (show (acc4 ++ blkB bl) ++ S.data.toList = gw by rw [HG.out, HH.out, HACC.out, HSS.out]; simp only [Int.toNat_natCast, List.append_assoc])
      rw [HE.out]
      replace HW := Lib.hid (HW.out.trans (hb3.mono hwB2))
      clear hb3
      go_wp2_with fail
      go_ret
      exact ⟨rfl, HW.out⟩

end Go.Proofs.Ytncjeleabpodaaa
namespace Go.Proofs.Ytncjeleabpodaaa
open Go.RowKit
theorem Sg.wr_le (g : Sg) (ok : g.Ok) (sum : Nat) : (g.wr sum).length ≤ 1100 := by
  have := ok.slen
  have := ok.blen
  rw [Sg.wr_length]
  omega
set_option maxRecDepth 100000 in
set_option maxHeartbeats 4000000 in
theorem segenc_any (src dst : Int) (g : Sg) (n₀ : Nat) (a : Option Addr) (cap : Nat) (S : ByteArray) (w : World) (hs : 0 ≤ src ∧ src ≤ 4294967295) (hd : 0 ≤ dst ∧ dst ≤ 4294967295) (ok : g.Ok) (hS : S.data.toList = g.s) (hc : SpAt w n₀ a g.bl) (hn : n₀ ≤ w.heap.size) :
    Calls Try.prog 17 #[.int .i64 src, .int .i64 dst, .agg #[.int .i64 g.fp, .int .i64 g.tp, .int .i64 g.sq, .int .i64 g.ak, .bool g.syn, .bool g.fin, .bool g.rst, .bool g.has, .int .i64 g.win, .int .i64 g.mss, .bool g.sacks, .slice a g.bl.length cap, .string S]] w fun e w' => e = .returned (.tuple #[.string ⟨(g.encL src.toNat dst.toNat).toArray⟩, .int .i64 0]) ∧ Below w.heap.size w w' := by
  have HVA := Lib.hid (fun W (h : SpAt W n₀ a g.bl) (hn : n₀ ≤ W.heap.size) => segValid_yes g n₀ a cap S W ok hS h hn)
  have HWR := Lib.hid (fun sum W (h : SpAt W n₀ a g.bl) (hn : n₀ ≤ W.heap.size) (hsum : sum < 65536) => segwrite_any g n₀ a cap S sum W ok hS h hn hsum)
  have HLN := Lib.hid (g.wr_le ok 0)
  have HE := Lib.hid (show g.wr (cksum (g.psd src.toNat dst.toNat)) = g.encL src.toNat dst.toNat from rfl)
  have HPS := Lib.hid (show g.psd src.toNat dst.toNat = be 4 src.toNat ++ be 4 dst.toNat ++ (be 2 6 ++ be 2 (g.wr 0).length) ++ g.wr 0 from rfl)
  have HSP := Lib.hid hc
  have HN := Lib.hid (SgAt.new w g a cap S)
  generalize g.encL src.toNat dst.toNat = enc at HE ⊢
  generalize g.psd src.toNat dst.toNat = psd at HE HPS
  generalize g.wr = wr at HWR HLN HE HPS
  obtain ⟨fp, tp, sq, ak, syn, fin, rst, has, win, mss, sacks, bl, s⟩ := g
  clear ok hS hc
  dsimp only at HVA HWR HSP HN ⊢
  have HWB := Lib.hid (sgBelow w (.cells #[.int .i64 fp, .int .i64 tp, .int .i64 sq, .int .i64 ak, .bool syn, .bool fin, .bool rst, .bool has, .int .i64 win, .int .i64 mss, .bool sacks, .slice a bl.length cap, .string S] 31))
  go_enter Try.func17, Try.ntmps17
  go_wp2_with fail
  generalize hW1 : w.alloc (.cells #[.int .i64 fp, .int .i64 tp, .int .i64 sq, .int .i64 ak, .bool syn, .bool fin, .bool rst, .bool has, .int .i64 win, .int .i64 mss, .bool sacks, .slice a bl.length cap, .string S] 31) = W1 at HN HWB ⊢
  clear hW1
  have HA := HN
  have HW := HWB
  clear HN HWB
  refine (addrValid_yes src _ hs).mono ?_
  rintro e w9 ⟨rfl, rfl⟩
  go_wp2_with fail
  refine (addrValid_yes dst _ hd).mono ?_
  rintro e w9 ⟨rfl, rfl⟩
  obtain ⟨z0, z1, z2, z3, z4, z5, z6, z7, z8, z9, z10, z11, z12⟩ := HA.out.cells
  dsimp only at z0 z1 z2 z3 z4 z5 z6 z7 z8 z9 z10 z11 z12
  go_wp2_with fail
  refine (HVA.out _ (HSP.out.below (HW.out.mono hn)) (Nat.le_trans hn HW.out.size)).mono ?_
  rintro e w2 ⟨rfl, hb1⟩
  replace HA := Lib.hid (HA.out.below hb1 HA.out.lt)
  replace HW := Lib.hid (HW.out.trans (hb1.mono HW.out.size))
  clear hb1 z0 z1 z2 z3 z4 z5 z6 z7 z8 z9 z10 z11 z12
  obtain ⟨z0, z1, z2, z3, z4, z5, z6, z7, z8, z9, z10, z11, z12⟩ := HA.out.cells
  dsimp only at z0 z1 z2 z3 z4 z5 z6 z7 z8 z9 z10 z11 z12
  go_wp2_with fail
  refine (HWR.out 0 _ (HSP.out.below (HW.out.mono hn)) (Nat.le_trans hn HW.out.size) (by omega)).mono ?_
  rintro e w3 ⟨rfl, hb1⟩
  replace HA := Lib.hid (HA.out.below hb1 HA.out.lt)
  replace HW := Lib.hid (HW.out.trans (hb1.mono HW.out.size))
  clear hb1 z0 z1 z2 z3 z4 z5 z6 z7 z8 z9 z10 z11 z12
  obtain ⟨bare, hbr⟩ : ∃ bare : ByteArray, bare = ⟨(wr 0).toArray⟩ := ⟨_, rfl⟩
  rw [← hbr]
  have HBR := Lib.hid (show bare.data.toList = wr 0 by rw [hbr])
  have hbl : bare.size ≤ 1100 := by rw [hbr, ba_size]; exact HLN.out
  clear hbr
  go_wp2_with fail
  refine (segput2 4 (by omega) (by omega) src dst (fits4 hs.1 hs.2) (fits4 hd.1 hd.2) w3 _ _ rfl).mono ?_
  rintro e w4 ⟨rfl, hb1⟩
  replace HA := Lib.hid (HA.out.below hb1 HA.out.lt)
  replace HW := Lib.hid (HW.out.trans (hb1.mono HW.out.size))
  obtain ⟨t1, hs1⟩ : ∃ t1 : ByteArray, t1 = ⟨(be 4 src.toNat ++ be 4 dst.toNat).toArray⟩ := ⟨_, rfl⟩
  rw [← hs1]
  have HS1 := Lib.hid (show t1.data.toList = be 4 src.toNat ++ be 4 dst.toNat by rw [hs1])
  have hs1l : t1.size ≤ 8 := by rw [hs1, ba_size]; simp only [List.length_append, be_length]; omega
  clear hs1 hb1
  go_wp2_with fail
  refine (segput2 2 (by omega) (by omega) 6 (bare.size : Int) (fits2 (by omega) (by omega)) (fits2 (by omega) (by omega)) w4 _ _ rfl).mono ?_
  rintro e w5 ⟨rfl, hb1⟩
  replace HA := Lib.hid (HA.out.below hb1 HA.out.lt)
  replace HW := Lib.hid (HW.out.trans (hb1.mono HW.out.size))
  obtain ⟨t2, hs1⟩ : ∃ t2 : ByteArray, t2 = ⟨(be 2 (6 : Int).toNat ++ be 2 (bare.size : Int).toNat).toArray⟩ := ⟨_, rfl⟩
  rw [← hs1]
  have HS2 := Lib.hid (show t2.data.toList = be 2 (6 : Int).toNat ++ be 2 (bare.size : Int).toNat by rw [hs1])
  have hs2l : t2.size ≤ 4 := by rw [hs1, ba_size]; simp only [List.length_append, be_length]; omega
  clear hs1 hb1
  go_wp2_with fail
  refine (checksum_any (t1 ++ t2 ++ bare) (by rw [ByteArray.size_append, ByteArray.size_append]; omega) _).mono ?_
  rintro e w6 ⟨rfl, hb1⟩
  replace HA := Lib.hid (HA.out.below hb1 HA.out.lt)
  replace HW := Lib.hid (HW.out.trans (hb1.mono HW.out.size))
  rw [show (t1 ++ t2 ++ bare).data.toList = psd by rw [HPS.out]; simp only [ByteArray.data_append, Array.toList_append, HS1.out, HS2.out, HBR.out]; rw [show (bare.size : Int).toNat = (wr 0).length by rw [← HBR.out, Array.length_toList]; rfl]; rfl]
  have hck := cksum_lt psd
  generalize cksum psd = ck at HE hck ⊢
  clear hb1
  obtain ⟨z0, z1, z2, z3, z4, z5, z6, z7, z8, z9, z10, z11, z12⟩ := HA.out.cells
  dsimp only at z0 z1 z2 z3 z4 z5 z6 z7 z8 z9 z10 z11 z12
  go_wp2_with fail
  refine (HWR.out ck _ (HSP.out.below (HW.out.mono hn)) (Nat.le_trans hn HW.out.size) hck).mono ?_
  rintro e w7 ⟨rfl, hb1⟩
  replace HA := Lib.hid (HA.out.below hb1 HA.out.lt)
  replace HW := Lib.hid (HW.out.trans (hb1.mono HW.out.size))
  clear hb1 z0 z1 z2 z3 z4 z5 z6 z7 z8 z9 z10 z11 z12
  rw [HE.out]
  go_wp2_with fail
  go_ret2
  exact ⟨rfl, HW.out⟩

end Go.Proofs.Ytncjeleabpodaaa
