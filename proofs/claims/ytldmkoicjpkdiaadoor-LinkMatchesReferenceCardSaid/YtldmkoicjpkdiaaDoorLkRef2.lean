/- The reference of layer 4. -/
import Derived.Test.YtldmkoicjpkdiaaDoorLkRef1
namespace Go.Proofs.YtldmkoicjpkdiaaDoor
open Go.RowKit
/-- What Decode of the reference asks, in plain terms. -/
def refF (l : List UInt8) : Fr := ⟨fld0 l, fld1 l, fld2 l, (l.drop 7).take (l.length - 11)⟩
theorem ref_dec {l : List UInt8} (h : decB l = true) : refF l = decF l ∧ l.length = 11 + fld3 l ∧ (refF l).okB = true ∧ (refF l).encL = l ∧ l.length ≤ 1035 := by
  have h1 := dec_len h
  have e : refF l = decF l := by unfold refF decF; rw [show l.length - 11 = fld3 l by omega]
  obtain ⟨h2, h3⟩ := dec_canon h
  have h4 := ((decF l).okB_iff.1 h3).2.2.2.2.2
  have h5 : (decF l).s.length = fld3 l := by show ((l.drop 7).take (fld3 l)).length = _; rw [List.length_take, List.length_drop]; omega
  exact ⟨e, h1, by rw [e]; exact h3, by rw [e]; exact h2, by omega⟩
theorem dec_ref {l : List UInt8} (h : (refF l).okB = true) (he : (refF l).encL = l) : decB l = true := by
  have := (dec_enc h).1
  rw [he] at this
  exact this
theorem rput_some (m b : Nat) (h1 : 1 ≤ b) (h4 : b ≤ 4) (hm : m < 256 ^ b) (w : World) :
    Calls Tryd.prog 25 #[.int .i64 m, .int .i64 b] w fun e w' => ∃ R : ByteArray, e = .returned (.string R) ∧ R.size ≤ 4 ∧ RowKit.Hid (R.data.toList = be b m) ∧ Below w.heap.size w w' := by
  have h9 : m ≤ 9223372036854775807 := by
    have : 256 ^ b ≤ 256 ^ 4 := Nat.pow_le_pow_right (by omega) h4
    omega
  have HM := Lib.hid hm
  clear hm
  go_enter Tryd.func25, Tryd.ntmps25
  go_wp2_with fail
  refine (refPut_in m b h1 h4 HM.out _ h9).mono ?_
  rintro e w1 ⟨rfl, hb⟩
  go_wp2_with fail
  go_ret
  exact ⟨_, rfl, by rw [ba_size, be_length]; exact h4, Lib.hid rfl, hb⟩
theorem rput1 (m : Nat) (hm : m < 256) (w : World) : Calls Tryd.prog 25 #[.int .i64 m, .int .i64 1] w fun e w' => ∃ R : ByteArray, e = .returned (.string R) ∧ R.size ≤ 4 ∧ RowKit.Hid (R.data.toList = be 1 m) ∧ Below w.heap.size w w' := rput_some m 1 (by omega) (by omega) hm w
theorem rput2 (m : Nat) (hm : m < 65536) (w : World) : Calls Tryd.prog 25 #[.int .i64 m, .int .i64 2] w fun e w' => ∃ R : ByteArray, e = .returned (.string R) ∧ R.size ≤ 4 ∧ RowKit.Hid (R.data.toList = be 2 m) ∧ Below w.heap.size w w' := rput_some m 2 (by omega) (by omega) hm w
theorem rput4 (m : Nat) (hm : m < 4294967296) (w : World) : Calls Tryd.prog 25 #[.int .i64 m, .int .i64 4] w fun e w' => ∃ R : ByteArray, e = .returned (.string R) ∧ R.size ≤ 4 ∧ RowKit.Hid (R.data.toList = be 4 m) ∧ Below w.heap.size w w' := rput_some m 4 (by omega) (by omega) hm w
theorem rget_in (s : ByteArray) (hs : s.size ≤ 9223372036854775807) (a b : Nat) (h1 : 1 ≤ b) (h4 : b ≤ 4) (hab : a + b ≤ s.size) (w : World) :
    Calls Tryd.prog 31 #[.string s, .int .i64 a, .int .i64 b] w fun e w' => e = .returned (.int .i64 (unbe ((s.data.toList.drop a).take b) : Nat)) ∧ w = w' := by
  go_enter Tryd.func31, Tryd.ntmps31
  go_wp2_with fail
  refine (refGet_in s hs a b h1 h4 hab _).mono ?_
  rintro e w1 ⟨rfl, rfl⟩
  go_wp2_with fail
  go_ret
  exact ⟨rfl, rfl⟩
theorem rget0 (s : ByteArray) (h1 : 11 ≤ s.size) (h2 : s.size ≤ 1035) (w : World) : Calls Tryd.prog 31 #[.string s, .int .i64 0, .int .i64 2] w fun e w' => e = .returned (.int .i64 (fld0 s.data.toList : Nat)) ∧ w = w' := by
  refine (rget_in s (by omega) 0 2 (by omega) (by omega) (by omega) w).mono ?_
  rintro e w1 ⟨rfl, rfl⟩
  exact ⟨rfl, rfl⟩
theorem rget1 (s : ByteArray) (h1 : 11 ≤ s.size) (h2 : s.size ≤ 1035) (w : World) : Calls Tryd.prog 31 #[.string s, .int .i64 2, .int .i64 2] w fun e w' => e = .returned (.int .i64 (fld1 s.data.toList : Nat)) ∧ w = w' := by
  refine (rget_in s (by omega) 2 2 (by omega) (by omega) (by omega) w).mono ?_
  rintro e w1 ⟨rfl, rfl⟩
  exact ⟨rfl, rfl⟩
theorem rget2 (s : ByteArray) (h1 : 11 ≤ s.size) (h2 : s.size ≤ 1035) (w : World) : Calls Tryd.prog 31 #[.string s, .int .i64 4, .int .i64 1] w fun e w' => e = .returned (.int .i64 (fld2 s.data.toList : Nat)) ∧ w = w' := by
  refine (rget_in s (by omega) 4 1 (by omega) (by omega) (by omega) w).mono ?_
  rintro e w1 ⟨rfl, rfl⟩
  exact ⟨rfl, rfl⟩
set_option maxHeartbeats 1000000 in
theorem rencode_no (t f k : Int) (s : ByteArray) (hs : s.size ≤ 9223372036854775807) (hv : Fr.okB ⟨t, f, k, s.data.toList⟩ = false) (w : World) :
    Calls Tryd.prog 12 #[.agg #[.int .i64 t, .int .i64 f, .int .i64 k, .string s]] w fun e w' => e = .returned (.tuple #[.string ⟨#[]⟩, .int .i64 40]) ∧ Below w.heap.size w w' := by
  have HV := Lib.hid hv
  clear hv
  go_enter Tryd.func12, Tryd.ntmps12
  go_wp2_with fail
  refine (rvalid_any t f k s hs _).mono ?_
  rintro e w1 ⟨rfl, hb⟩
  rw [HV.out]
  have hB := below_val (new_below w (.cells #[.int .i64 t, .int .i64 f, .int .i64 k, .string s] 23)) (by simp) hb
  go_wp2_with fail
  go_ret2
  exact ⟨rfl, hB⟩
set_option maxRecDepth 100000 in
set_option maxHeartbeats 4000000 in
theorem rencode_yes (t f k : Int) (s : ByteArray) (hv : Fr.okB ⟨t, f, k, s.data.toList⟩ = true) (w : World) :
    Calls Tryd.prog 12 #[.agg #[.int .i64 t, .int .i64 f, .int .i64 k, .string s]] w fun e w' => e = .returned (.tuple #[.string ⟨(Fr.encL ⟨t, f, k, s.data.toList⟩).toArray⟩, .int .i64 0]) ∧ Below w.heap.size w w' := by
  obtain ⟨v1, v2, v3, v4, v5, v6⟩ := (Fr.okB_iff _).1 hv
  dsimp only at v1 v2 v3 v4 v5 v6
  have hsz : s.data.toList.length = s.size := by rw [Array.length_toList]; rfl
  rw [hsz] at v6
  have HSZ := Lib.hid hsz
  have k1 : 1 ≤ k := by omega
  have k2 : k ≤ 2 := by omega
  obtain ⟨t, rfl⟩ := Int.eq_ofNat_of_zero_le (by omega : 0 ≤ t)
  obtain ⟨f, rfl⟩ := Int.eq_ofNat_of_zero_le (by omega : 0 ≤ f)
  obtain ⟨k, rfl⟩ := Int.eq_ofNat_of_zero_le (by omega : 0 ≤ k)
  have n1 : t < 65536 := by omega
  have n2 : f < 65536 := by omega
  have n3 : k < 256 := by omega
  have n4 : s.size < 65536 := by omega
  have HV := Lib.hid hv
  clear hv hsz v1 v2 v3 v4 v5 k1 k2
  go_enter Tryd.func12, Tryd.ntmps12
  go_wp2_with fail
  have x := Box.new w t f k s 23
  have hb0 := new_below w (.cells #[.int .i64 (t : Int), .int .i64 (f : Int), .int .i64 (k : Int), .string s] 23)
  generalize w.alloc (.cells #[.int .i64 (t : Int), .int .i64 (f : Int), .int .i64 (k : Int), .string s] 23) = V1 at *
  generalize hG : w.heap.size = G at x ⊢
  have HG := Lib.hid hG
  clear hG
  refine (rvalid_any t f k s (by omega) _).mono ?_
  rintro e W2 ⟨rfl, hb⟩
  rw [HV.out]
  replace x := x.below hb
  replace hb0 := below_val hb0 hb0.size hb
  clear hb
  go_wp2_with fail
  refine wp_region_held_drew (S := (Box G t f k s)) (by kernel_rfl) (⟨x.1, x.2, x.3, x.4, x.5⟩) (fun hHeld => ?_)
  refine wpAnyH_take (i := 0) (v := ?_) (by simp only [List.getElem?_toArray, List.getElem?_cons_zero]; rfl) (by kernel_rfl) (by kernel_rfl) (by kernel_rfl) (by exact fun _ _ _ h => h) (Or.inl ⟨by rfl, ?_⟩) (by assumption) ?_
  rotate_left 1
  · intro w hSw; obtain ⟨x0, x1, x2, x3, xl⟩ := hSw; go_simp; (try with_reducible rfl)
  (try simp only [Act.put, List.setIfInBounds_toArray, List.set_cons_zero, List.set_cons_succ])
  refine wpAnyH_take (i := 1) (v := ?_) (by simp only [List.getElem?_toArray, List.getElem?_cons_succ, List.getElem?_cons_zero]; rfl) (by kernel_rfl) (by kernel_rfl) (by kernel_rfl) (by exact fun _ _ _ h => h) (Or.inl ⟨by rfl, ?_⟩) (by assumption) ?_
  rotate_left 1
  · intro w hSw; obtain ⟨x0, x1, x2, x3, xl⟩ := hSw; go_simp; (try with_reducible rfl)
  (try simp only [Act.put, List.setIfInBounds_toArray, List.set_cons_zero, List.set_cons_succ])
  refine wpAnyH_take (i := 3) (v := ?_) (by simp only [List.getElem?_toArray, List.getElem?_cons_succ, List.getElem?_cons_zero]; rfl) (by kernel_rfl) (by kernel_rfl) (by kernel_rfl) (by exact fun _ _ _ h => h) (Or.inl ⟨by rfl, ?_⟩) (by assumption) ?_
  rotate_left 1
  · intro w hSw; obtain ⟨x0, x1, x2, x3, xl⟩ := hSw; go_simp; (try with_reducible rfl)
  (try simp only [Act.put, List.setIfInBounds_toArray, List.set_cons_zero, List.set_cons_succ])
  refine wpAnyH_take (i := 4) (v := ?_) (by simp only [List.getElem?_toArray, List.getElem?_cons_succ, List.getElem?_cons_zero]; rfl) (by kernel_rfl) (by kernel_rfl) (by kernel_rfl) (by exact fun _ _ _ h => h) (Or.inl ⟨by rfl, ?_⟩) (by assumption) ?_
  rotate_left 1
  · intro w hSw; obtain ⟨x0, x1, x2, x3, xl⟩ := hSw; go_simp; (try with_reducible rfl)
  (try simp only [Act.put, List.setIfInBounds_toArray, List.set_cons_zero, List.set_cons_succ])
  refine wpAnyH_take (i := 7) (v := ?_) (by simp only [List.getElem?_toArray, List.getElem?_cons_succ, List.getElem?_cons_zero]; rfl) (by kernel_rfl) (by kernel_rfl) (by kernel_rfl) (by exact fun _ _ _ h => h) (Or.inl ⟨by rfl, ?_⟩) (by assumption) ?_
  rotate_left 1
  · intro w hSw; obtain ⟨x0, x1, x2, x3, xl⟩ := hSw; go_simp; (try with_reducible rfl)
  (try simp only [Act.put, List.setIfInBounds_toArray, List.set_cons_zero, List.set_cons_succ])
  refine wpAnyH_take (i := 8) (v := ?_) (by simp only [List.getElem?_toArray, List.getElem?_cons_succ, List.getElem?_cons_zero]; rfl) (by kernel_rfl) (by kernel_rfl) (by kernel_rfl) (by exact fun _ _ _ h => h) (Or.inl ⟨by rfl, ?_⟩) (by assumption) ?_
  rotate_left 1
  · intro w hSw; obtain ⟨x0, x1, x2, x3, xl⟩ := hSw; go_simp; (try with_reducible rfl)
  (try simp only [Act.put, List.setIfInBounds_toArray, List.set_cons_zero, List.set_cons_succ])
  refine wpAnyH_take (i := 11) (v := ?_) (by simp only [List.getElem?_toArray, List.getElem?_cons_succ, List.getElem?_cons_zero]; rfl) (by kernel_rfl) (by kernel_rfl) (by kernel_rfl) (by exact fun _ _ _ h => h) (Or.inl ⟨by rfl, ?_⟩) (by assumption) ?_
  rotate_left 1
  · intro w hSw; obtain ⟨x0, x1, x2, x3, xl⟩ := hSw; go_simp; (try with_reducible rfl)
  (try simp only [Act.put, List.setIfInBounds_toArray, List.set_cons_zero, List.set_cons_succ])
  refine wpAnyH_take (i := 12) (v := ?_) (by simp only [List.getElem?_toArray, List.getElem?_cons_succ, List.getElem?_cons_zero]; rfl) (by kernel_rfl) (by kernel_rfl) (by kernel_rfl) (by exact fun _ _ _ h => h) (Or.inl ⟨by rfl, ?_⟩) (by assumption) ?_
  rotate_left 1
  · intro w hSw; obtain ⟨x0, x1, x2, x3, xl⟩ := hSw; go_simp; (try with_reducible rfl)
  (try simp only [Act.put, List.setIfInBounds_toArray, List.set_cons_zero, List.set_cons_succ])
  refine wpAnyH_take (i := 13) (v := ?_) (by simp only [List.getElem?_toArray, List.getElem?_cons_succ, List.getElem?_cons_zero]; rfl) (by kernel_rfl) (by kernel_rfl) (by kernel_rfl) (by exact fun _ _ _ h => h) (Or.inl ⟨by rfl, ?_⟩) (by assumption) ?_
  rotate_left 1
  · intro w hSw; obtain ⟨x0, x1, x2, x3, xl⟩ := hSw; go_simp; (try with_reducible rfl)
  (try simp only [Act.put, List.setIfInBounds_toArray, List.set_cons_zero, List.set_cons_succ])
  refine wpAnyH_take (i := 16) (v := ?_) (by simp only [List.getElem?_toArray, List.getElem?_cons_succ, List.getElem?_cons_zero]; rfl) (by kernel_rfl) (by kernel_rfl) (by kernel_rfl) (by exact fun _ _ _ h => h) (Or.inl ⟨by rfl, ?_⟩) (by assumption) ?_
  rotate_left 1
  · intro w hSw; obtain ⟨x0, x1, x2, x3, xl⟩ := hSw; go_simp; (try with_reducible rfl)
  (try simp only [Act.put, List.setIfInBounds_toArray, List.set_cons_zero, List.set_cons_succ])
  refine wpAnyH_take (i := 17) (v := ?_) (by simp only [List.getElem?_toArray, List.getElem?_cons_succ, List.getElem?_cons_zero]; rfl) (by kernel_rfl) (by kernel_rfl) (by kernel_rfl) (by exact fun _ _ _ h => h) (Or.inl ⟨by rfl, ?_⟩) (by assumption) ?_
  rotate_left 1
  · intro w hSw; obtain ⟨x0, x1, x2, x3, xl⟩ := hSw; go_simp; (try with_reducible rfl)
  (try simp only [Act.put, List.setIfInBounds_toArray, List.set_cons_zero, List.set_cons_succ])
  refine wpAnyH_ready (rs := [2]) (by kernel_rfl) (by simp) ?_
  refine AllReadyH.cons (by simp only [List.getElem?_toArray, List.getElem?_cons_succ, List.getElem?_cons_zero]; rfl) (fun Kq hKq => ?_) AllReadyH.nil
  go_simp
  refine (rput2 t n1 _).mono ?_
  rintro e W3 ⟨R3, rfl, r3, h3, hb⟩
  have hx := Box.below hHeld hb
  replace hb0 := below_val hb0.drew hb0.size hb
  clear hb
  go_simp
  refine hKq.out _ _ (hx) (fun hHeld2 => ?_)
  clear hKq Kq hHeld
  (try simp only [Act.put, List.setIfInBounds_toArray, List.set_cons_zero, List.set_cons_succ])
  have hHeld := hHeld2
  clear hHeld2
  clear hx
  refine wpAnyH_ready (rs := [5]) (by kernel_rfl) (by simp) ?_
  refine AllReadyH.cons (by simp only [List.getElem?_toArray, List.getElem?_cons_succ, List.getElem?_cons_zero]; rfl) (fun Kq hKq => ?_) AllReadyH.nil
  go_simp
  refine (rput2 f n2 _).mono ?_
  rintro e W4 ⟨R4, rfl, r4, h4, hb⟩
  have hx := Box.below hHeld hb
  replace hb0 := below_val hb0 hb0.size hb
  clear hb
  go_simp
  refine hKq.out _ _ (hx) (fun hHeld2 => ?_)
  clear hKq Kq hHeld
  (try simp only [Act.put, List.setIfInBounds_toArray, List.set_cons_zero, List.set_cons_succ])
  have hHeld := hHeld2
  clear hHeld2
  clear hx
  have q6 : ¬ 9223372036854775807 < R3.size + R4.size := by omega
  refine wpAnyH_take (i := 6) (v := ?_) (by simp only [List.getElem?_toArray, List.getElem?_cons_succ, List.getElem?_cons_zero]; rfl) (by kernel_rfl) (by kernel_rfl) (by kernel_rfl) (by exact fun _ _ _ h => h) (Or.inl ⟨by rfl, ?_⟩) (by assumption) ?_
  rotate_left 1
  · intro w hSw; obtain ⟨x0, x1, x2, x3, xl⟩ := hSw; go_simp; (try with_reducible rfl)
  (try simp only [Act.put, List.setIfInBounds_toArray, List.set_cons_zero, List.set_cons_succ])
  refine wpAnyH_ready (rs := [9]) (by kernel_rfl) (by simp) ?_
  refine AllReadyH.cons (by simp only [List.getElem?_toArray, List.getElem?_cons_succ, List.getElem?_cons_zero]; rfl) (fun Kq hKq => ?_) AllReadyH.nil
  go_simp
  refine (rput1 k n3 _).mono ?_
  rintro e W5 ⟨R5, rfl, r5, h5, hb⟩
  have hx := Box.below hHeld hb
  replace hb0 := below_val hb0 hb0.size hb
  clear hb
  go_simp
  refine hKq.out _ _ (hx) (fun hHeld2 => ?_)
  clear hKq Kq hHeld
  (try simp only [Act.put, List.setIfInBounds_toArray, List.set_cons_zero, List.set_cons_succ])
  have hHeld := hHeld2
  clear hHeld2
  clear hx
  have q10 : ¬ 9223372036854775807 < R3.size + R4.size + R5.size := by omega
  refine wpAnyH_take (i := 10) (v := ?_) (by simp only [List.getElem?_toArray, List.getElem?_cons_succ, List.getElem?_cons_zero]; rfl) (by kernel_rfl) (by kernel_rfl) (by kernel_rfl) (by exact fun _ _ _ h => h) (Or.inl ⟨by rfl, ?_⟩) (by assumption) ?_
  rotate_left 1
  · intro w hSw; obtain ⟨x0, x1, x2, x3, xl⟩ := hSw; go_simp; (try with_reducible rfl)
  (try simp only [Act.put, List.setIfInBounds_toArray, List.set_cons_zero, List.set_cons_succ])
  refine wpAnyH_ready (rs := [14]) (by kernel_rfl) (by simp) ?_
  refine AllReadyH.cons (by simp only [List.getElem?_toArray, List.getElem?_cons_succ, List.getElem?_cons_zero]; rfl) (fun Kq hKq => ?_) AllReadyH.nil
  go_simp
  refine (rput2 s.size n4 _).mono ?_
  rintro e W6 ⟨R6, rfl, r6, h6, hb⟩
  have hx := Box.below hHeld hb
  replace hb0 := below_val hb0 hb0.size hb
  clear hb
  go_simp
  refine hKq.out _ _ (hx) (fun hHeld2 => ?_)
  clear hKq Kq hHeld
  (try simp only [Act.put, List.setIfInBounds_toArray, List.set_cons_zero, List.set_cons_succ])
  have hHeld := hHeld2
  clear hHeld2
  clear hx
  have q15 : ¬ 9223372036854775807 < R3.size + R4.size + R5.size + R6.size := by omega
  have q18 : ¬ 9223372036854775807 < R3.size + R4.size + R5.size + R6.size + s.size := by omega
  refine wpAnyH_take (i := 15) (v := ?_) (by simp only [List.getElem?_toArray, List.getElem?_cons_succ, List.getElem?_cons_zero]; rfl) (by kernel_rfl) (by kernel_rfl) (by kernel_rfl) (by exact fun _ _ _ h => h) (Or.inl ⟨by rfl, ?_⟩) (by assumption) ?_
  rotate_left 1
  · intro w hSw; obtain ⟨x0, x1, x2, x3, xl⟩ := hSw; go_simp; (try with_reducible rfl)
  (try simp only [Act.put, List.setIfInBounds_toArray, List.set_cons_zero, List.set_cons_succ])
  refine wpAnyH_take (i := 18) (v := ?_) (by simp only [List.getElem?_toArray, List.getElem?_cons_succ, List.getElem?_cons_zero]; rfl) (by kernel_rfl) (by kernel_rfl) (by kernel_rfl) (by exact fun _ _ _ h => h) (Or.inl ⟨by rfl, ?_⟩) (by assumption) ?_
  rotate_left 1
  · intro w hSw; obtain ⟨x0, x1, x2, x3, xl⟩ := hSw; go_simp; (try with_reducible rfl)
  (try simp only [Act.put, List.setIfInBounds_toArray, List.set_cons_zero, List.set_cons_succ])
  refine wpAnyH_take (i := 19) (v := ?_) (by simp only [List.getElem?_toArray, List.getElem?_cons_succ, List.getElem?_cons_zero]; rfl) (by kernel_rfl) (by kernel_rfl) (by kernel_rfl) (by exact fun _ _ _ h => h) (Or.inl ⟨by rfl, ?_⟩) (by assumption) ?_
  rotate_left 1
  · intro w hSw; obtain ⟨x0, x1, x2, x3, xl⟩ := hSw; go_simp; (try with_reducible rfl)
  (try simp only [Act.put, List.setIfInBounds_toArray, List.set_cons_zero, List.set_cons_succ])
  clear q6 q10 q15 q18
  refine wpAnyH_done (by kernel_rfl) ?_ _
  have hA : (R3 ++ R4 ++ R5 ++ R6 ++ s).data.toList = Fr.bodyL ⟨t, f, k, s.data.toList⟩ := by
    rw [ba_append, ba_append, ba_append, ba_append, h3.out, h4.out, h5.out, h6.out]
    show _ = be 2 ((t : Nat) : Int).toNat ++ be 2 ((f : Nat) : Int).toNat ++ be 1 ((k : Nat) : Int).toNat ++ be 2 s.data.toList.length ++ s.data.toList
    rw [HSZ.out]
    rfl
  have hAs : (R3 ++ R4 ++ R5 ++ R6 ++ s).size ≤ 2000 := by simp only [ByteArray.size_append]; omega
  generalize R3 ++ R4 ++ R5 ++ R6 ++ s = A at *
  have HA := Lib.hid hA
  clear hA
  go_wp2_with fail
  refine (refCrc32_any A (by unfold maxLen; omega) _).mono ?_
  rintro e W7 ⟨rfl, rfl⟩
  have hc := crc_lt A.data.toList
  go_wp2_with fail
  refine (rput4 (crc A.data.toList) hc _).mono ?_
  rintro e W8 ⟨R8, rfl, r8, h8, hb⟩
  replace hb0 := below_val hb0 hb0.size hb
  clear hb
  go_wp2_with fail
  go_ret2
  refine ⟨?_, hb0⟩
  have hE : A ++ R8 = ⟨(Fr.encL ⟨t, f, k, s.data.toList⟩).toArray⟩ := by
    refine ba_eq ?_
    rw [ba_append, HA.out, h8.out, HA.out]
    rfl
  rw [hE]
  rfl
set_option maxHeartbeats 1000000 in
theorem raddressed_any (t f k : Int) (s : ByteArray) (m : Int) (w : World) :
    Calls Tryd.prog 18 #[.agg #[.int .i64 t, .int .i64 f, .int .i64 k, .string s], .int .i64 m] w fun e w' => e = .returned (.bool (addrB t f m)) ∧ Below w.heap.size w w' := by
  by_cases h1 : t = m
  · subst h1
    by_cases h2 : f = t
    · subst h2
      have HV := Lib.hid (show false = addrB f f f by unfold addrB; simp)
      go_enter Tryd.func18, Tryd.ntmps18
      go_wp2_with fail
      go_ret
      exact ⟨ret_b HV.out, (Below.refl _ _).alloc (Nat.le_refl _) _⟩
    · have HV := Lib.hid (show true = addrB t f t by unfold addrB; simp [h2])
      have b1 : (f == t) = false := by rw [beq_eq_false_iff_ne]; exact h2
      have b2 : (f != t) = true := by rw [bne_iff_ne]; exact h2
      clear h2
      go_enter Tryd.func18, Tryd.ntmps18
      go_wp2_with fail
      go_ret
      exact ⟨ret_b HV.out, (Below.refl _ _).alloc (Nat.le_refl _) _⟩
  · have c1 : (t == m) = false := by rw [beq_eq_false_iff_ne]; exact h1
    by_cases h3 : t = 65535
    · by_cases h2 : f = m
      · subst h2
        have HV := Lib.hid (show false = addrB t f f by unfold addrB; simp)
        subst h3
        clear h1
        go_enter Tryd.func18, Tryd.ntmps18
        go_wp2_with fail
        go_ret
        exact ⟨ret_b HV.out, (Below.refl _ _).alloc (Nat.le_refl _) _⟩
      · have HV := Lib.hid (show true = addrB t f m by unfold addrB; simp [h2, h3])
        have b1 : (f == m) = false := by rw [beq_eq_false_iff_ne]; exact h2
        have b2 : (f != m) = true := by rw [bne_iff_ne]; exact h2
        subst h3
        clear h2 h1
        go_enter Tryd.func18, Tryd.ntmps18
        go_wp2_with fail
        go_ret
        exact ⟨ret_b HV.out, (Below.refl _ _).alloc (Nat.le_refl _) _⟩
    · have HV := Lib.hid (show false = addrB t f m by unfold addrB; simp [h1, h3])
      have c2 : (t == 65535) = false := by rw [beq_eq_false_iff_ne]; exact h3
      clear h1 h3
      go_enter Tryd.func18, Tryd.ntmps18
      go_wp2_with fail
      go_ret
      exact ⟨ret_b HV.out, (Below.refl _ _).alloc (Nat.le_refl _) _⟩
end Go.Proofs.YtldmkoicjpkdiaaDoor
