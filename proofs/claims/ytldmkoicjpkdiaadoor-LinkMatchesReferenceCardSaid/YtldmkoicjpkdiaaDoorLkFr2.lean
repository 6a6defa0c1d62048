/- Facts about the encoding for the other link statements. -/
import Derived.Test.YtldmkoicjpkdiaaDoorLkFr
namespace Go.Proofs.YtldmkoicjpkdiaaDoor
open Go.RowKit
theorem pick_some (c n : Int) (w : World) (h1 : -9223372036854775808 ≤ c) (h2 : c ≤ 9223372036854775807) (hn : 1 ≤ n) (hn2 : n ≤ 9223372036854775807) :
    Calls Tryd.prog 20 #[.int .i64 c, .int .i64 n] w fun r w' => ∃ j : Nat, r = .returned (.int .i64 (j : Int)) ∧ (j : Int) < n ∧ w = w' := by
  refine (pick_any c n w h1 h2 hn hn2).mono ?_
  rintro e w1 ⟨rfl, rfl⟩
  obtain ⟨b1, b2⟩ := pickV_bd c n hn
  refine ⟨(pickV c n).toNat, ?_, by omega, rfl⟩
  rw [Int.toNat_of_nonneg b1]
theorem ba_len' (s : ByteArray) : s.data.toList.length = s.size := by rw [Array.length_toList]; rfl
theorem pick_mac (c : Int) (w : World) (h1 : -9223372036854775808 ≤ c) (h2 : c ≤ 9223372036854775807) :
    Calls Tryd.prog 20 #[.int .i64 c, .int .i64 65534] w fun r w' => ∃ j : Nat, r = .returned (.int .i64 (j : Int)) ∧ j < 65534 ∧ w = w' := by
  refine (pick_some c 65534 w h1 h2 (by omega) (by omega)).mono ?_
  rintro e w1 ⟨j, rfl, hj, rfl⟩
  exact ⟨j, rfl, by omega, rfl⟩
theorem nonempty {M : ByteArray} (h : M.toList.isEmpty = false) : 0 < M.size := by
  rw [ByteArray.toList_eq] at h
  have := ba_len' M
  cases hd : M.data.toList with
  | nil => rw [hd] at h; cases h
  | cons a l => rw [hd] at this; rw [← this]; simp
theorem Box.set0 {G : Nat} {t f k t' : Int} {s : ByteArray} {w : World} (h : Box G t f k s w) : Box G t' f k s (w.setCell ⟨G, 0, none⟩ (.int .i64 t')) := by
  refine ⟨?_, ?_, ?_, ?_, ?_⟩
  · exact World.cell?_setCell_same _ _ _ h.c0
  · rw [World.cell?_setCell_other _ _ _ _ (by simp)]; exact h.c1
  · rw [World.cell?_setCell_other _ _ _ _ (by simp)]; exact h.c2
  · rw [World.cell?_setCell_other _ _ _ _ (by simp)]; exact h.c3
  · simpa using h.lt
theorem ErrS.set {a : Addr} {w : World} {p : Addr} {v : Value} (h : ErrS a w) (hp : 0 < p.block) : ErrS a (w.setCell p v) :=
  h.below ((Below.refl p.block w).setCell (Nat.le_refl _) v) hp
def decNo : Value := .tuple #[.agg #[.int .i64 0, .int .i64 0, .int .i64 0, .string ⟨#[]⟩], .int .i64 40]
theorem ba_len (s : ByteArray) : s.data.toList.length = s.size := by rw [Array.length_toList]; rfl
theorem prefix_no {t f k : Int} {s E : ByteArray} (h : Fr.okB ⟨t, f, k, s.data.toList⟩ = true) (hE : E.data.toList = Fr.encL ⟨t, f, k, s.data.toList⟩) {j : Nat} (hj : j < E.size) : decRes (E.extract 0 j) = decNo := by
  refine decRes_no ?_
  have e : (E.extract 0 j).data.toList = E.data.toList.take j := by
    have := ext_toList E 0 j
    rw [Nat.zero_add, List.drop_zero] at this
    exact this
  rw [e]
  exact dec_prefix (by rw [hE]; exact (dec_enc h).1) (by rw [ba_len]; exact hj)
theorem ba_append (a b : ByteArray) : (a ++ b).data.toList = a.data.toList ++ b.data.toList := by simp
theorem more_no {t f k : Int} {s E M : ByteArray} (h : Fr.okB ⟨t, f, k, s.data.toList⟩ = true) (hE : E.data.toList = Fr.encL ⟨t, f, k, s.data.toList⟩) (hM : 0 < M.size) : decRes (E ++ M) = decNo := by
  refine decRes_no ?_
  rw [ba_append]
  exact dec_more (by rw [hE]; exact (dec_enc h).1) (by rw [ba_len]; exact hM)
theorem byte_split (E : ByteArray) (j : Nat) (hj : j < E.size) : E.data.toList = (E.extract 0 j).data.toList ++ E[j] :: (E.extract (j + 1) E.size).data.toList := by
  have e1 : (E.extract 0 j).data.toList = E.data.toList.take j := by
    have := ext_toList E 0 j
    rw [Nat.zero_add, List.drop_zero] at this
    exact this
  have e2 : (E.extract (j + 1) E.size).data.toList = E.data.toList.drop (j + 1) := by
    have := ext_toList E (j + 1) (E.size - (j + 1))
    rw [show j + 1 + (E.size - (j + 1)) = E.size by omega] at this
    rw [this, List.take_of_length_le (by rw [List.length_drop, ba_len]; omega)]
  rw [e1, e2]
  have hj' : j < E.data.toList.length := by rw [ba_len]; exact hj
  have h0 := (List.take_append_drop j E.data.toList).symm
  rw [List.drop_eq_getElem_cons hj'] at h0
  exact h0
theorem byte_same {E A B : ByteArray} {j c : Nat} (hj : j < E.size) (hA : E.extract 0 j = A) (hB : E.extract (j + 1) E.size = B) (h : E[j] = UInt8.ofNat c) : A ++ ⟨#[UInt8.ofNat c]⟩ ++ B = E := by
  refine ba_eq ?_
  rw [ba_append, ba_append, byte_split E j hj, hA, hB, h]
  simp
theorem byte_no {t f k : Int} {s E A B : ByteArray} (h : Fr.okB ⟨t, f, k, s.data.toList⟩ = true) (hE : E.data.toList = Fr.encL ⟨t, f, k, s.data.toList⟩) {j c : Nat} (hj : j < E.size) (hA : E.extract 0 j = A) (hB : E.extract (j + 1) E.size = B) (hc : ¬ E[j] = UInt8.ofNat c) : decRes (A ++ ⟨#[UInt8.ofNat c]⟩ ++ B) = decNo ∧ (E.toList == (A ++ ⟨#[UInt8.ofNat c]⟩ ++ B).toList) = false := by
  have hs := byte_split E j hj
  rw [hA, hB] at hs
  have ht : (A ++ ⟨#[UInt8.ofNat c]⟩ ++ B).data.toList = A.data.toList ++ UInt8.ofNat c :: B.data.toList := by rw [ba_append, ba_append]; simp
  have hE1 : decB (A.data.toList ++ E[j] :: B.data.toList) = true := by rw [← hs, hE]; exact (dec_enc h).1
  constructor
  · refine decRes_no ?_
    rw [ht, Bool.eq_false_iff]
    intro h2
    exact hc (dec_byte hE1 h2)
  · rw [beq_eq_false_iff_ne]
    intro h2
    have h3 : E.data.toList = (A ++ ⟨#[UInt8.ofNat c]⟩ ++ B).data.toList := by
      have : ∀ x : ByteArray, x.toList = x.data.toList := fun x => by simp [ByteArray.toList_eq]
      rw [← this, ← this]; exact h2
    rw [ht, hs] at h3
    have h4 := List.append_cancel_left h3
    exact hc (List.cons.inj h4).1
theorem conv_y (W : World) (y : Nat) (hy : y < 256) : (convert 36 9 (.slice (some ⟨W.heap.size, 0, none⟩) 1 1)).run Tryd.prog ((W.alloc (.cells #[.int .u8 (y : Int)] 5)).drew) = .ok (.string ⟨#[UInt8.ofNat y]⟩) ((W.alloc (.cells #[.int .u8 (y : Int)] 5)).drew) := by
  have h := run_convert_bytes_back (P := Tryd.prog) ((W.alloc (.cells #[.int .u8 (y : Int)] 5)).drew) 36 9 5 ⟨W.heap.size, 0, none⟩ 1 [UInt8.ofNat y] Tryd.underlying36 Tryd.underlying5 Tryd.underlying9 ?_
  · exact h
  · intro j hj
    obtain rfl : j = 0 := by simp at hj; exact hj
    have hc : ((W.alloc (.cells #[.int .u8 (y : Int)] 5)).drew).cell? ⟨W.heap.size, 0, none⟩ = some (.int .u8 (y : Int)) := by
      show (W.alloc (.cells #[.int .u8 (y : Int)] 5)).cell? ⟨W.heap.size, 0, none⟩ = _
      rw [cell_of_row _ _ _ _ _ _ (heap_alloc_new _ _)]
      rfl
    show ((W.alloc (.cells #[.int .u8 (y : Int)] 5)).drew).cell? ⟨W.heap.size, 0, none⟩ = _
    rw [hc]
    simp
    omega
/-- The parts of an encoding. -/
theorem enc_parts {t f k : Int} {s E : ByteArray} (h : Fr.okB ⟨t, f, k, s.data.toList⟩ = true) (hE : E.data.toList = Fr.encL ⟨t, f, k, s.data.toList⟩) :
    getE E.data.toList (11 + (s.size : Int) - 4) 4 = 0 ∧ getV E.data.toList (11 + (s.size : Int) - 4) 4 = crc (E.extract 0 (7 + s.size)).data.toList ∧ getE E.data.toList 5 2 = 0 ∧ getV E.data.toList 5 2 = s.size ∧ E.extract 7 (7 + s.size) = s := by
  have hl : E.data.toList.length = 11 + s.size := by rw [hE, encL_length]; show 11 + s.data.toList.length = _; rw [ba_len]
  obtain ⟨d1, d2⟩ := dec_enc h
  rw [← hE] at d1 d2
  have f3 : fld3 E.data.toList = s.size := by have := dec_len d1; omega
  have q3 : (E.data.toList.drop 7).take (fld3 E.data.toList) = s.data.toList := congrArg Fr.s d2
  have c3 := ((decB_iff _).1 d1).2.2
  rw [f3] at q3 c3
  have a1 : (11 + (s.size : Int) - 4) = ((7 + s.size : Nat) : Int) := by omega
  have g1 := getE_yes (l := E.data.toList) (a := 7 + s.size) (b := 4) (by omega) (by omega) (by omega)
  have g2 := getE_yes (l := E.data.toList) (a := 5) (b := 2) (by omega) (by omega) (by omega)
  rw [a1]
  have e1 : (E.extract 0 (7 + s.size)).data.toList = E.data.toList.take (7 + s.size) := by
    have := ext_toList E 0 (7 + s.size)
    rw [Nat.zero_add, List.drop_zero] at this
    exact this
  refine ⟨g1.1, ?_, g2.1, g2.2.trans f3, ba_eq ((ext_toList E 7 s.size).trans q3)⟩
  rw [e1]
  exact g1.2.trans c3
end Go.Proofs.YtldmkoicjpkdiaaDoor
