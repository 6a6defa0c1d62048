/- recvbuf: the methods of a nil buffer; pick and Stream of the statements. -/
import Derived.Test.YtfeppkgcimgkeaaRbTake
namespace Go.Proofs.Ytfeppkgcimgkeaa
open Go.RowKit Go.Shelf
theorem len_nil (w : World) : Calls Try.prog 22 #[.pointer none] w fun e w' => e = .returned (.int .i64 0) ∧ w = w' := by
  go_enter Try.func22, Try.ntmps22
  go_wp2
  go_ret
  exact ⟨rfl, rfl⟩
theorem room_nil (w : World) : Calls Try.prog 23 #[.pointer none] w fun e w' => e = .returned (.int .i64 0) ∧ w = w' := by
  go_enter Try.func23, Try.ntmps23
  go_wp2
  go_ret
  exact ⟨rfl, rfl⟩
theorem next_nil (w : World) : Calls Try.prog 16 #[.pointer none] w fun e w' => e = .returned (.int .i64 0) ∧ w = w' := by
  go_enter Try.func16, Try.ntmps16
  go_wp2
  go_ret
  exact ⟨rfl, rfl⟩
theorem put_nil (off : Int) (s : ByteArray) (w : World) : Calls Try.prog 14 #[.pointer none, .int .i64 off, .string s] w fun e w' => e = .returned (.tuple #[.int .i64 0, .int .i64 1]) ∧ Below w.heap.size w w' := by
  go_enter Try.func14, Try.ntmps14
  go_wp2_with fail
  go_ret2
  exact ⟨rfl, Below.refl _ _⟩
theorem take_nil (k : Int) (w : World) : Calls Try.prog 21 #[.pointer none, .int .i64 k] w fun e w' => e = .returned (.string ⟨#[]⟩) ∧ w = w' := by
  by_cases h : k ≤ 0
  all_goals
    go_enter Try.func21, Try.ntmps21
    go_wp2_with fail
    refine (len_nil _).mono ?_
    rintro e w1 ⟨rfl, rfl⟩
    go_wp2_with fail
    go_ret
    exact ⟨rfl, rfl⟩
def pickV (c n : Int) : Int := (if c < 0 then -(c + 1) else c) % n
theorem pick_any (c n : Int) (w : World) (h1 : -9223372036854775808 ≤ c) (h2 : c ≤ 9223372036854775807) (hn : 1 ≤ n) (hn2 : n ≤ 9223372036854775807) :
    Calls Try.prog 20 #[.int .i64 c, .int .i64 n] w fun r w' => r = .returned (.int .i64 (pickV c n)) ∧ w = w' := by
  by_cases c1 : c < 0
  · have H := Lib.hid (show -((c + 1).tmod n) = pickV c n by unfold pickV; rw [if_pos c1, ← Int.neg_tmod, Int.tmod_eq_emod_of_nonneg (by omega)])
    go_enter Try.func20, Try.ntmps20
    go_wp2
    go_ret
    exact ⟨by rw [← H.out]; rfl, rfl⟩
  · have H := Lib.hid (show c % n = pickV c n by unfold pickV; rw [if_neg c1])
    go_enter Try.func20, Try.ntmps20
    go_wp2
    go_ret
    exact ⟨by rw [← H.out]; rfl, rfl⟩
theorem pickV_bd (c n : Int) (hn : 1 ≤ n) : 0 ≤ pickV c n ∧ pickV c n < n := by
  unfold pickV; exact ⟨Int.emod_nonneg _ (by omega), Int.emod_lt_of_pos _ (by omega)⟩
/-- The stream that the statements send. -/
def stB (p : Int) (i : Nat) : UInt8 := UInt8.ofNat (p.toNat + i * i / 3 + 7 * i)
def strL (p : Int) (n : Nat) : List UInt8 := (List.range n).map (stB p)
theorem strL_length (p : Int) (n : Nat) : (strL p n).length = n := by simp [strL]
theorem strL_get (p : Int) (n i : Nat) (h : i < n) : (strL p n)[i]? = some (stB p i) := by simp [strL, h]
/-- What Stream's block holds behind i rounds. -/
def strTo (p : Int) (n i : Nat) : List UInt8 := strL p i ++ List.replicate (n - i) 0
theorem strTo_length (p : Int) (n i : Nat) (h : i ≤ n) : (strTo p n i).length = n := by
  unfold strTo; rw [List.length_append, strL_length, List.length_replicate]; omega
theorem strTo_set (p : Int) (n i : Nat) (h : i < n) : (strTo p n i).set i (stB p i) = strTo p n (i + 1) := by
  unfold strTo
  rw [List.set_append_right _ _ (by rw [strL_length]; omega), strL_length, Nat.sub_self, show n - i = (n - (i + 1)) + 1 by omega, List.replicate_succ, List.set_cons_zero]
  show _ = (List.range (i + 1)).map (stB p) ++ _
  rw [List.range_succ, List.map_append, List.append_assoc]
  rfl
theorem RingAt.setB {g : Nat} {rg : List UInt8} {w : World} (h : RingAt g rg w) (i : Nat) (c : UInt8) : RingAt g (rg.set i c) (w.setCell ⟨g, i, none⟩ (.int .u8 (c.toNat : Int))) := by
  unfold RingAt
  rw [heap_setCell_same _ _ _ _ _ _ h]
  simp [Lib.byteCells, List.map_set]
theorem stB_val (p : Int) (h0 : 0 ≤ p) (i : Nat) : ((stB p i).toNat : Int) = IntKind.u8.wrap (p + (i : Int) * i / 3 + 7 * i) := by
  obtain ⟨q, rfl⟩ := Int.eq_ofNat_of_zero_le h0
  unfold stB
  rw [IntKind.wrap_u8, UInt8.toNat_ofNat', Int.toNat_natCast]
  have : ((i : Int) * i) = ((i * i : Nat) : Int) := by rw [Int.natCast_mul]
  rw [this]
  omega
set_option maxRecDepth 100000 in
theorem stream_any (seed : Int) (n : Nat) (w : World) (h1 : -9223372036854775808 ≤ seed) (h2 : seed ≤ 9223372036854775807) (hn : 1 ≤ n) (hn2 : n ≤ 1000) :
    Calls Try.prog 19 #[.int .i64 seed, .int .i64 n] w fun e w' => e = .returned (.string ⟨(strL (pickV seed 251) n).toArray⟩) ∧ Below w.heap.size w w' := by
  obtain ⟨i0, hi, hz0, hz1, hz2⟩ := info_parts byteInfo
  obtain ⟨p1, p2⟩ := pickV_bd seed 251 (by omega)
  obtain ⟨p, hp⟩ : ∃ p, p = pickV seed 251 := ⟨_, rfl⟩
  rw [← hp] at p1 p2 ⊢
  have HP := Lib.hid hp
  clear hp
  go_enter Try.func19, Try.ntmps19
  go_wp2_with (first | (at_make; refine wpList_make_full _ rfl _ _ _ rfl w.heap.size 5 i0 _ 1 Try.underlying22 hi hz0 hz1 _ _ _ _ n rfl rfl rfl rfl (by rw [hz2]; omega) (by unfold maxLen; omega) (Nat.le_refl _) ?_))
  intro w1 hown hgr
  have hR : RingAt w.heap.size (strTo p n 0) w1 := by
    refine ring_of_own (base := w.heap.size) (n := n) (cap := n) ?_ rfl
    have e : (madeCells #[Value.int .u8 0] n).toList = Lib.byteCells (strTo p n 0) := by
      apply List.ext_getElem
      · simp [madeCells, Lib.byteCells, strTo, strL]
      · intro i h1 h2
        simp [madeCells, Lib.byteCells, strTo, strL, Nat.mod_one]
    rw [← e]
    exact hown
  have hlt := (World.ownsRow.lt hown w.heap.size rfl).2
  have hb : Below w.heap.size w w1 := grown_below hgr (Nat.le_refl _) (fun k e => by cases e)
  have HR := Lib.hid hR
  have HB := Lib.hid hb
  clear hown hgr hR hb
  go_wp2_with fail
  go_loopw [6] (fun u wr => ∃ i : Nat, u = .int .i64 i ∧ i ≤ n ∧ RingAt w.heap.size (strTo p n i) wr ∧ Below w.heap.size w wr) (fun u _ => n - (intOf u).toNat)
  case atStart => exact ⟨0, rfl, Nat.zero_le _, HR.out, HB.out⟩
  case round =>
    obtain ⟨i, rfl, hin, hring, hbl⟩ := hrel
    have HRG := Lib.hid hring
    have HBL := Lib.hid hbl
    clear hring hbl
    by_cases hlt' : i < n
    · have hl := strTo_length p n i hin
      obtain ⟨c0, hcell⟩ : ∃ c0, wr.cell? ⟨w.heap.size, i, none⟩ = some (.int .u8 c0) := ⟨_, ring_cell HRG.out i (by omega)⟩
      have hfr : wr.frozen? ⟨w.heap.size, i, none⟩ = false := frozen_of_row _ _ _ _ _ HRG.out
      have hii : (i : Int) * i ≤ 1000000 := by
        have := Int.mul_le_mul (show (i : Int) ≤ 1000 by omega) (show (i : Int) ≤ 1000 by omega) (by omega) (by omega)
        omega
      have hii0 : 0 ≤ (i : Int) * i := Int.mul_nonneg (by omega) (by omega)
      have HV := Lib.hid (stB_val p p1 i)
      clear hl
      go_wp2_with fail
      refine (pick_any seed 251 _ h1 h2 (by omega) (by omega)).mono ?_
      rintro e w2 ⟨rfl, rfl⟩
      rw [← HP.out]
      go_wp2_with fail
      refine ⟨⟨i + 1, by simp, by omega, ?_, HBL.out.setCell (Nat.le_refl _) _⟩, by simp [intOf]; omega⟩
      have e := HV.out
      rw [IntKind.wrap_u8] at e
      rw [← e, ← strTo_set p n i hlt']
      exact HRG.out.setB i _
    · have hc := ring_conv HRG.out n n (strTo_length p n i hin)
      have he : i = n := by omega
      subst he
      go_wp2_with fail
      go_ret
      refine ⟨?_, HBL.out⟩
      unfold strTo
      simp
end Go.Proofs.Ytfeppkgcimgkeaa
