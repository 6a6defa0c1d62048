/- segment.put. -/
import Derived.Test.YtncjeleabpodaaaSgPlain
import Derived.Test.YtncjeleabpodaaaBld
import Derived.Test.YtncjeleabpodaaaWireGet
import Derived.WalkSpells
import Derived.WalkLawsBesides
namespace Go.Proofs.Ytncjeleabpodaaa
open Go.RowKit
/-- A builder stays one where only new memory is made. -/
theorem bld_below {T e : TypeId} {B b : Nat} {bs : List Value} {w w' : World} (h : Lib.IsBuilder T e B b bs w) (hb : Below w.heap.size w w') : Lib.IsBuilder T e B b bs w' := by
  have one : ∀ p, Lib.BuilderAt T e B b p bs w → Lib.BuilderAt T e B b p bs w' := by
    intro p hp
    have hl := hp.lt
    obtain ⟨h1, v, h2, h3, h4⟩ := hp
    refine ⟨h1, v, by rw [hb.block b hl]; exact h2, h3.kept (row := none) ⟨hb.os, hb.tape, hb.output, hb.size, fun i hi _ => hb.block i hi⟩ ?_, h4⟩
    cases v.ownBlock with
    | none => exact .inl rfl
    | some x => exact .inr (by simp)
  exact h.imp (one _) (one _)
theorem bld_drew {T e : TypeId} {B b : Nat} {bs : List Value} {w : World} (h : Lib.IsBuilder T e B b bs w) : Lib.IsBuilder T e B b bs w.drew := h
theorem ba_size (l : List UInt8) : (⟨l.toArray⟩ : ByteArray).size = l.length := rfl
/-- A row of numbers that came in. -/
def NumsAt (C off : Nat) (ns : List Nat) (w : World) : Prop := C < w.heap.size ∧ ∀ i (h : i < ns.length), w.cell? ⟨C, off + i, none⟩ = some (.int .i64 (ns[i] : Int))
set_option maxRecDepth 100000 in
set_option maxHeartbeats 2000000 in
theorem segput_any (b C : Nat) (ns : List Nat) (cap : Nat) (w : World) (hb1 : 1 ≤ b) (hb4 : b ≤ 4) (hn : ns.length ≤ 8) (hok : ∀ n ∈ ns, n < 256 ^ b ∧ n ≤ 4294967295) (hC : NumsAt C 0 ns w) :
    Calls Try.prog 49 #[.int .i64 b, .slice (some ⟨C, 0, none⟩) ns.length cap] w fun e w' => e = .returned (.string ⟨(putL b ns).toArray⟩) ∧ Below w.heap.size w w' := by
  have HC := Lib.hid hC.2
  have hCl := hC.1
  have HOK := Lib.hid hok
  have HFR := Lib.hid (Lib.fresh_isBuilder 118 5 w)
  clear hC hok
  go_enter Try.func49, Try.ntmps49
  go_wp2_with fail
  have hB0 := (Below.refl w.heap.size w).alloc (Nat.le_refl _) (.cells #[.pointer none, .slice none 0 0] 118)
  generalize w.alloc (.cells #[.pointer none, .slice none 0 0] 118) = W0 at *
  obtain ⟨B, hBB⟩ : ∃ B, w.heap.size = B := ⟨_, rfl⟩
  rw [hBB] at HFR hB0 hCl ⊢
  have HBB := Lib.hid hBB
  clear hBB
  go_loopw [12] (fun i wr => ∃ k : Nat, k ≤ ns.length ∧ i = .int .i64 (k : Int) ∧ Lib.IsBuilder 118 5 B B (Lib.byteCells (putL b (ns.take k))) wr ∧ Below B w wr) (fun i _ => ns.length - (intOf i).toNat)
  case atStart => exact ⟨0, Nat.zero_le _, rfl, HFR.out, hB0⟩
  case round =>
    obtain ⟨k, hk, rfl, hI, hBk⟩ := hrel
    clear hB0 HFR
    have hBw : B ≤ wr.heap.size := by have := hBk.size; have := HBB.out; omega
    by_cases hlt : k < ns.length
    · obtain ⟨q1, q2⟩ := HOK.out _ (List.getElem_mem hlt)
      have g0 := (hBk.cell (p := ⟨C, _, none⟩) hCl).trans (HC.out k hlt)
      rw [Nat.zero_add] at g0
      have HS := Lib.hid (show putL b (ns.take (k + 1)) = putL b (ns.take k) ++ be b ns[k] by rw [List.take_succ_eq_append_getElem hlt, putL_append]; show _ ++ (be b ns[k] ++ []) = _; rw [List.append_nil])
      generalize ns[k] = m at g0 q1 q2 HS
      have hlen : (putL b (ns.take k)).length ≤ 32 := by
        rw [putL_length, List.length_take]
        have := Nat.mul_le_mul hb4 (show min k ns.length ≤ 8 by omega)
        omega
      have HP := Lib.hid (putS_yes m b hb1 hb4 q1)
      have HI := Lib.hid hI
      have HBK := Lib.hid hBk
      clear q1 hI hBk
      have hki : (k : Int) < (ns.length : Int) := by omega
      go_wp2_with fail
      refine (wput_any (m : Int) (b : Int) (by omega) _).mono ?_
      rintro e w1 ⟨rfl, hb1'⟩
      rw [HP.out.1, HP.out.2]
      have hI1 := bld_below HI.out hb1'
      have hBk1 := HBK.out.trans (hb1'.mono hBw)
      have hBw1 : B ≤ w1.heap.size := Nat.le_trans hBw hb1'.size
      have HI1 := Lib.hid hI1
      have HBK1 := Lib.hid hBk1
      clear hI1 hBk1 hb1'
      go_wp2_with fail
      refine (writeString_any B B _ ⟨(be b m).toArray⟩ _ HI1.out (by rw [Lib.byteCells_length]; have h := be_length b m; have h2 := ba_size (be b m); omega) hBw1).mono ?_
      rintro e w2 ⟨rfl, hI2, hb2⟩
      rw [show Lib.strCells ⟨(be b m).toArray⟩ = Lib.byteCells (be b m) from rfl, ← Lib.byteCells_append, ← HS.out] at hI2
      have HI2 := Lib.hid hI2
      have HBK2 := Lib.hid (HBK1.out.trans hb2)
      clear hI2 hb2
      go_wp2_with fail
      exact ⟨⟨k + 1, hlt, by simp, HI2.out, HBK2.out⟩, by simp [intOf]; omega⟩
    · obtain rfl : k = ns.length := by omega
      rw [List.take_length] at hI
      go_wp2_with fail
      refine (bstring_any B B (putL b ns) _ hI hBw).mono ?_
      rintro e w1 ⟨rfl, hb1'⟩
      go_wp2_with fail
      go_ret
      exact ⟨rfl, by rw [HBB.out]; exact hBk.trans hb1'⟩
end Go.Proofs.Ytncjeleabpodaaa
