/- RecvBufNilAndInvalid: the law's walk. -/
import Derived.Test.YtfeppkgcimgkeaaRbSane
import Derived.OpenShut
namespace Go.Proofs.Ytfeppkgcimgkeaa
open Go.RowKit Go.Shelf
def nb2 : Bx := ((bx0 10).put 0 [97, 98, 99, 100, 101, 102, 103, 104]).take 5
def nb1 : Bx := (bx0 10).put 0 [97, 98, 99, 100, 101, 102, 103, 104]
theorem nb0_ok : (bx0 10).Ok := bx0_ok 10 (by omega) (by omega)
theorem nb1_ok : nb1.Ok := (Bx.put_spec nb0_ok _ (by omega) (by omega)).1
theorem nb1_take : nb1.takeS 5 = [97, 98, 99, 100, 101] := by decide +kernel
theorem nb2_ok : nb2.Ok := Bx.Ok.take nb1_ok 5 (by decide +kernel)
theorem nb2_room : nb2.rd + nb2.ring.length - nb2.nx = 7 := by decide +kernel
theorem nb2_rd : nb2.rd = 5 := by decide +kernel
theorem nb2_nx : nb2.nx = 8 := by decide +kernel
theorem nb2_ln : nb2.ring.length = 10 := by decide +kernel
theorem nb2_len : nb2.nx - nb2.rd = 3 := by decide +kernel
theorem Bx.put_bad (b : Bx) {off : Int} (s : List UInt8) (h : off < 0 ∨ 1099511627776 < off) : b.put off s = b ∧ putE off = 130 := by
  unfold Bx.put putE
  rw [if_pos h, if_pos h]
  exact ⟨rfl, rfl⟩
theorem nb2_put (off : Int) (s : List UInt8) (k : Nat) (hk : s.length = k) (h : (15 ≤ off ∧ off ≤ 1099511627776) ∨ (0 ≤ off ∧ off + k ≤ 8)) : nb2.put off s = nb2 ∧ nb2.putN off k = 0 ∧ putE off = 0 := by
  have e : ¬ (off < 0 ∨ 1099511627776 < off) := by omega
  have e2 : nb2.hi off k ≤ nb2.lo off := by
    unfold Bx.hi Bx.lo
    rw [nb2_rd, nb2_nx, nb2_ln]
    omega
  unfold Bx.put Bx.putN putE
  rw [if_neg e, if_neg e, if_neg e, hk, if_pos e2, if_pos e2]
  exact ⟨rfl, rfl, rfl⟩
theorem nb2_take (k : Int) (h : k ≤ 0) : nb2.take k = nb2 ∧ nb2.takeS k = [] := by
  unfold Bx.take Bx.takeS
  rw [if_pos (by omega), if_pos (by omega)]
  exact ⟨rfl, rfl⟩
set_option maxRecDepth 100000 in
set_option maxHeartbeats 2000000 in
theorem walk_RecvBufNilAndInvalid (w : World) (s : ByteArray) (hs0 : s.size ≤ maxLen) (hsz : s.size ≤ 140737488351232) (off : Int) (hoff0 : (Lit.int .i64 off).wf = true) (n : Int) (hn0 : (Lit.int .i64 n).wf = true) :
    Calls Try.prog 7 #[.string s, .int .i64 off, .int .i64 n] w fun e w' => e = .returned (.bool true) ∧ Below w.heap.size w w' := by
  have ho := bounds_i64 hoff0
  have hn := bounds_i64 hn0
  clear hoff0 hn0
  unfold maxLen at hs0
  obtain ⟨q, hq⟩ : ∃ q, q = pickV off 1000 := ⟨_, rfl⟩
  obtain ⟨p, hp⟩ : ∃ p, p = pickV off 5 := ⟨_, rfl⟩
  obtain ⟨m, hm⟩ : ∃ m, m = pickV n 9 := ⟨_, rfl⟩
  have q1 := pickV_bd off 1000 (by omega)
  have p1 := pickV_bd off 5 (by omega)
  have m1 := pickV_bd n 9 (by omega)
  rw [← hq] at q1
  rw [← hp] at p1
  rw [← hm] at m1
  obtain ⟨q1, q2⟩ := q1
  obtain ⟨p1, p2⟩ := p1
  obtain ⟨m1, m2⟩ := m1
  have HQ := Lib.hid (show ∀ W, Calls Try.prog 20 #[.int .i64 off, .int .i64 1000] W fun r w' => r = .returned (.int .i64 q) ∧ W = w' from fun W => by rw [hq]; exact pick_any off 1000 W ho.1 ho.2 (by omega) (by omega))
  have HP := Lib.hid (show ∀ W, Calls Try.prog 20 #[.int .i64 off, .int .i64 5] W fun r w' => r = .returned (.int .i64 p) ∧ W = w' from fun W => by rw [hp]; exact pick_any off 5 W ho.1 ho.2 (by omega) (by omega))
  have HM := Lib.hid (show ∀ W, Calls Try.prog 20 #[.int .i64 n, .int .i64 9] W fun r w' => r = .returned (.int .i64 m) ∧ W = w' from fun W => by rw [hm]; exact pick_any n 9 W hn.1 hn.2 (by omega) (by omega))
  clear hq hp hm ho hn
  go_enter Try.func7, Try.ntmps7
  go_wp2_with fail
  refine (sanity_any _).mono ?_
  rintro e w0 ⟨rfl, hb0⟩
  have HB := Lib.hid hb0
  clear hb0
  go_wp2_with fail
  refine (put_nil _ _ _).mono ?_
  rintro e w00 ⟨rfl, hb0⟩
  replace HB := Lib.hid (HB.out.trans (hb0.mono HB.out.size))
  clear hb0
  go_wp2_with fail
  refine (new_box 10 (by omega) (by omega) _).mono ?_
  rintro e w1 ⟨B, R, rfl, hbox, hb, hB, hR⟩
  have hsB := HB.out.size
  obtain ⟨lb, hlb⟩ : ∃ lb, lb = w1.heap.size := ⟨_, rfl⟩
  have hl1 : lb ≤ w1.heap.size := by omega
  have HX := Lib.hid (hbox lb)
  replace HB := Lib.hid (HB.out.trans (hb.mono HB.out.size))
  replace hB : w.heap.size ≤ B := by omega
  replace hR : w.heap.size ≤ R := by omega
  clear hbox hb hlb hsB
  go_wp2_with fail
  obtain ⟨sl, hsl⟩ : ∃ sl : ByteArray, sl = { data := #[97, 98, 99, 100, 101, 102, 103, 104] } := ⟨_, rfl⟩
  rw [← hsl]
  have hs1 : sl.size = 8 := by rw [hsl]; rfl
  have HS := Lib.hid (show sl.data.toList = [97, 98, 99, 100, 101, 102, 103, 104] by rw [hsl])
  clear hsl
  refine (put_any B R lb (bx0 10) 0 sl w1 HX.out nb0_ok hl1 (by omega)).mono ?_
  rintro e w2 ⟨rfl, hx, hc⟩
  rw [HS.out] at hx
  rw [hs1]
  replace HB := Lib.hid (HB.out.trans (hc.below hB hR HB.out.size))
  replace hl1 := Nat.le_trans hl1 hc.size
  replace HX := Lib.hid (show BoxAt B R lb nb1 w2 from hx)
  clear hx hc HS hs1 sl
  go_wp2_with fail
  refine (take_any B R lb nb1 5 w2 HX.out nb1_ok).mono ?_
  rintro e w3 ⟨rfl, hx, hc⟩
  rw [nb1_take]
  replace HB := Lib.hid (HB.out.trans ((Chg2.of1 hc).below hB hR HB.out.size))
  replace hl1 := Nat.le_trans hl1 hc.size
  replace HX := Lib.hid (show BoxAt B R lb nb2 w3 from hx)
  clear hx hc
  go_wp2_with fail
  refine (room_any B R lb nb2 _ HX.out nb2_ok).mono ?_
  rintro e w' ⟨rfl, hw'⟩
  rw [nb2_room]
  replace HB := Lib.hid (show Below w.heap.size w w' by rw [hw']; exact HB.out.drew.drew)
  replace HX := Lib.hid (show BoxAt B R lb nb2 w' by rw [hw']; exact HX.out.drew.drew)
  replace hl1 : lb ≤ w'.heap.size := by rw [hw']; exact hl1
  clear hw' 
  go_wp2_with fail
  refine (HQ.out _).mono ?_
  rintro e w9 ⟨rfl, rfl⟩
  go_wp2_with fail
  refine (put_any B R lb nb2 (-1 - q) s w' HX.out nb2_ok hl1 (by omega)).mono ?_
  rintro e w4 ⟨rfl, hx, hc⟩
  have HF := Lib.hid (nb2.put_bad s.data.toList (off := -1 - q) (by omega))
  rw [HF.out.1] at hx
  rw [HF.out.2]
  clear HF
  replace HB := Lib.hid (HB.out.trans (hc.below hB hR HB.out.size))
  replace hl1 := Nat.le_trans hl1 hc.size
  replace HX := Lib.hid hx
  clear hx hc
  go_wp2_with fail
  refine (HQ.out _).mono ?_
  rintro e w9 ⟨rfl, rfl⟩
  go_wp2_with fail
  refine (put_any B R lb nb2 (1099511627777 + q) s w4 HX.out nb2_ok hl1 (by omega)).mono ?_
  rintro e w5 ⟨rfl, hx, hc⟩
  have HF := Lib.hid (nb2.put_bad s.data.toList (off := 1099511627777 + q) (by omega))
  rw [HF.out.1] at hx
  rw [HF.out.2]
  clear HF
  replace HB := Lib.hid (HB.out.trans (hc.below hB hR HB.out.size))
  replace hl1 := Nat.le_trans hl1 hc.size
  replace HX := Lib.hid hx
  clear hx hc
  go_wp2_with fail
  refine (HQ.out _).mono ?_
  rintro e w9 ⟨rfl, rfl⟩
  go_wp2_with fail
  refine (put_any B R lb nb2 (15 + q) s w5 HX.out nb2_ok hl1 (by omega)).mono ?_
  rintro e w6 ⟨rfl, hx, hc⟩
  have HF := Lib.hid (nb2_put (15 + q) s.data.toList s.size (by rw [Array.length_toList]; rfl) (by omega))
  rw [HF.out.1] at hx
  rw [HF.out.2.1, HF.out.2.2]
  clear HF
  replace HB := Lib.hid (HB.out.trans (hc.below hB hR HB.out.size))
  replace hl1 := Nat.le_trans hl1 hc.size
  replace HX := Lib.hid hx
  clear hx hc
  go_wp2_with fail
  obtain ⟨c3, hc3⟩ : ∃ c3 : ByteArray, c3 = s.extract 0 (min (s.size : Int) 3).toNat := ⟨_, rfl⟩
  have hc3l : c3.size ≤ 3 := by rw [hc3, ByteArray.size_extract]; omega
  have HC3 := Lib.hid hc3
  have b1 : 0 ≤ min (s.size : Int) 3 := by omega
  have b2 : min (s.size : Int) 3 ≤ (s.size : Int) := by omega
  clear hc3
  refine wp_region_held_drew (S := (fun _ : World => True)) (by kernel_rfl) (trivial) (fun hHeld => ?_)
  refine wpAnyH_take (i := 0) (v := ?_) (by simp only [List.getElem?_toArray, List.getElem?_cons_zero]; rfl) (by kernel_rfl) (by kernel_rfl) (by kernel_rfl) (by exact fun _ _ _ h => h) (Or.inl ⟨by rfl, ?_⟩) (by assumption) ?_
  rotate_left 1
  · intro w hSw; (try dsimp only at hSw); go_simp; (try with_reducible rfl)
  (try simp only [Act.put, List.setIfInBounds_toArray, List.set_cons_zero, List.set_cons_succ])
  refine wpAnyH_take (i := 1) (v := ?_) (by simp only [List.getElem?_toArray, List.getElem?_cons_succ, List.getElem?_cons_zero]; rfl) (by kernel_rfl) (by kernel_rfl) (by kernel_rfl) (by exact fun _ _ _ h => h) (Or.inl ⟨by rfl, ?_⟩) (by assumption) ?_
  rotate_left 1
  · intro w hSw; (try dsimp only at hSw); go_simp; (try with_reducible rfl)
  (try simp only [Act.put, List.setIfInBounds_toArray, List.set_cons_zero, List.set_cons_succ])
  refine wpAnyH_take (i := 3) (v := ?_) (by simp only [List.getElem?_toArray, List.getElem?_cons_succ, List.getElem?_cons_zero]; rfl) (by kernel_rfl) (by kernel_rfl) (by kernel_rfl) (by exact fun _ _ _ h => h) (Or.inl ⟨by rfl, ?_⟩) (by assumption) ?_
  rotate_left 1
  · intro w hSw; (try dsimp only at hSw); go_simp; (try with_reducible rfl)
  (try simp only [Act.put, List.setIfInBounds_toArray, List.set_cons_zero, List.set_cons_succ])
  refine wpAnyH_take (i := 4) (v := ?_) (by simp only [List.getElem?_toArray, List.getElem?_cons_succ, List.getElem?_cons_zero]; rfl) (by kernel_rfl) (by kernel_rfl) (by kernel_rfl) (by exact fun _ _ _ h => h) (Or.inl ⟨by rfl, ?_⟩) (by assumption) ?_
  rotate_left 1
  · intro w hSw; (try dsimp only at hSw); go_simp; (try with_reducible rfl)
  (try simp only [Act.put, List.setIfInBounds_toArray, List.set_cons_zero, List.set_cons_succ])
  refine wpAnyH_take (i := 5) (v := ?_) (by simp only [List.getElem?_toArray, List.getElem?_cons_succ, List.getElem?_cons_zero]; rfl) (by kernel_rfl) (by kernel_rfl) (by kernel_rfl) (by exact fun _ _ _ h => h) (Or.inl ⟨by rfl, ?_⟩) (by assumption) ?_
  rotate_left 1
  · intro w hSw; (try dsimp only at hSw); go_simp; (try with_reducible rfl)
  (try simp only [Act.put, List.setIfInBounds_toArray, List.set_cons_zero, List.set_cons_succ])
  refine wpAnyH_take (i := 6) (v := ?_) (by simp only [List.getElem?_toArray, List.getElem?_cons_succ, List.getElem?_cons_zero]; rfl) (by kernel_rfl) (by kernel_rfl) (by kernel_rfl) (by exact fun _ _ _ h => h) (Or.inl ⟨by rfl, ?_⟩) (by assumption) ?_
  rotate_left 1
  · intro w hSw; (try dsimp only at hSw); go_simp; (try with_reducible rfl)
  (try simp only [Act.put, List.setIfInBounds_toArray, List.set_cons_zero, List.set_cons_succ])
  refine wpAnyH_take (i := 7) (v := ?_) (by simp only [List.getElem?_toArray, List.getElem?_cons_succ, List.getElem?_cons_zero]; rfl) (by kernel_rfl) (by kernel_rfl) (by kernel_rfl) (by exact fun _ _ _ h => h) (Or.inl ⟨by rfl, ?_⟩) (by assumption) ?_
  rotate_left 1
  · intro w hSw; (try dsimp only at hSw); go_simp; (try with_reducible rfl)
  (try simp only [Act.put, List.setIfInBounds_toArray, List.set_cons_zero, List.set_cons_succ])
  refine wpAnyH_ready (rs := [2]) (by kernel_rfl) (by simp) ?_
  refine AllReadyH.cons (by simp only [List.getElem?_toArray, List.getElem?_cons_succ, List.getElem?_cons_zero]; rfl) (fun Kq hKq => ?_) AllReadyH.nil
  go_simp
  refine (HP.out _).mono ?_
  rintro e w9 ⟨rfl, rfl⟩
  go_simp
  refine hKq.out _ _ (trivial) (fun hHeld2 => ?_)
  clear hKq Kq hHeld
  (try simp only [Act.put, List.setIfInBounds_toArray, List.set_cons_zero, List.set_cons_succ])
  have hHeld := hHeld2
  clear hHeld2
  rw [← HC3.out]
  refine wpAnyH_ready (rs := [8]) (by kernel_rfl) (by simp) ?_
  refine AllReadyH.cons (by simp only [List.getElem?_toArray, List.getElem?_cons_succ, List.getElem?_cons_zero]; rfl) (fun Kq hKq => ?_) AllReadyH.nil
  go_simp
  refine (put_any B R lb nb2 p c3 _ HX.out.drew nb2_ok hl1 (by omega)).mono ?_
  rintro e v2 ⟨rfl, hx, hc⟩
  have HF := Lib.hid (nb2_put p c3.data.toList c3.size (by rw [Array.length_toList]; rfl) (by omega))
  rw [HF.out.1] at hx
  rw [HF.out.2.1, HF.out.2.2]
  clear HF
  replace HB := Lib.hid (HB.out.drew.trans (hc.below hB hR HB.out.drew.size))
  replace HX := Lib.hid hx
  clear hx hc
  go_simp
  refine hKq.out _ _ (trivial) (fun hHeld2 => ?_)
  clear hKq Kq hHeld
  (try simp only [Act.put, List.setIfInBounds_toArray, List.set_cons_zero, List.set_cons_succ])
  have hHeld := hHeld2
  clear hHeld2
  refine wpAnyH_take (i := 9) (v := ?_) (by simp only [List.getElem?_toArray, List.getElem?_cons_succ, List.getElem?_cons_zero]; rfl) (by kernel_rfl) (by kernel_rfl) (by kernel_rfl) (by exact fun _ _ _ h => h) (Or.inl ⟨by rfl, ?_⟩) (by assumption) ?_
  rotate_left 1
  · intro w hSw; (try dsimp only at hSw); go_simp; (try with_reducible rfl)
  (try simp only [Act.put, List.setIfInBounds_toArray, List.set_cons_zero, List.set_cons_succ])
  refine wpAnyH_take (i := 10) (v := ?_) (by simp only [List.getElem?_toArray, List.getElem?_cons_succ, List.getElem?_cons_zero]; rfl) (by kernel_rfl) (by kernel_rfl) (by kernel_rfl) (by exact fun _ _ _ h => h) (Or.inl ⟨by rfl, ?_⟩) (by assumption) ?_
  rotate_left 1
  · intro w hSw; (try dsimp only at hSw); go_simp; (try with_reducible rfl)
  (try simp only [Act.put, List.setIfInBounds_toArray, List.set_cons_zero, List.set_cons_succ])
  refine wpAnyH_take (i := 11) (v := ?_) (by simp only [List.getElem?_toArray, List.getElem?_cons_succ, List.getElem?_cons_zero]; rfl) (by kernel_rfl) (by kernel_rfl) (by kernel_rfl) (by exact fun _ _ _ h => h) (Or.inl ⟨by rfl, ?_⟩) (by assumption) ?_
  rotate_left 1
  · intro w hSw; (try dsimp only at hSw); go_simp; (try with_reducible rfl)
  (try simp only [Act.put, List.setIfInBounds_toArray, List.set_cons_zero, List.set_cons_succ])
  refine wpAnyH_take (i := 12) (v := ?_) (by simp only [List.getElem?_toArray, List.getElem?_cons_succ, List.getElem?_cons_zero]; rfl) (by kernel_rfl) (by kernel_rfl) (by kernel_rfl) (by exact fun _ _ _ h => h) (Or.inl ⟨by rfl, ?_⟩) (by assumption) ?_
  rotate_left 1
  · intro w hSw; (try dsimp only at hSw); go_simp; (try with_reducible rfl)
  (try simp only [Act.put, List.setIfInBounds_toArray, List.set_cons_zero, List.set_cons_succ])
  refine wpAnyH_take (i := 13) (v := ?_) (by simp only [List.getElem?_toArray, List.getElem?_cons_succ, List.getElem?_cons_zero]; rfl) (by kernel_rfl) (by kernel_rfl) (by kernel_rfl) (by exact fun _ _ _ h => h) (Or.inl ⟨by rfl, ?_⟩) (by assumption) ?_
  rotate_left 1
  · intro w hSw; (try dsimp only at hSw); go_simp; (try with_reducible rfl)
  (try simp only [Act.put, List.setIfInBounds_toArray, List.set_cons_zero, List.set_cons_succ])
  refine wpAnyH_done (by kernel_rfl) ?_ _
  go_wp2_with fail
  refine (take_nil n _).mono ?_
  rintro e w9 ⟨rfl, rfl⟩
  go_wp2_with fail
  refine (next_nil _).mono ?_
  rintro e w9 ⟨rfl, rfl⟩
  go_wp2_with fail
  refine (len_nil _).mono ?_
  rintro e w9 ⟨rfl, rfl⟩
  go_wp2_with fail
  refine (room_nil _).mono ?_
  rintro e w9 ⟨rfl, rfl⟩
  go_wp2_with fail
  refine (blocks_nil _).mono ?_
  rintro e v3 ⟨rfl, hb⟩
  replace HB := Lib.hid (HB.out.trans (hb.mono HB.out.size))
  replace HX := Lib.hid (HX.out.below hb)
  clear hb
  go_wp2_with fail
  refine (HM.out _).mono ?_
  rintro e w9 ⟨rfl, rfl⟩
  go_wp2_with fail
  refine (take_any B R lb nb2 (-1 - m) _ HX.out nb2_ok).mono ?_
  rintro e v4 ⟨rfl, hx, hc⟩
  have HF := Lib.hid (nb2_take (-1 - m) (by omega))
  rw [HF.out.1] at hx
  rw [HF.out.2]
  clear HF
  replace HB := Lib.hid (HB.out.trans ((Chg2.of1 hc).below hB hR HB.out.size))
  replace HX := Lib.hid hx
  clear hx hc
  go_wp2_with fail
  refine (room_any B R lb nb2 _ HX.out nb2_ok).mono ?_
  rintro e v5 ⟨rfl, hv5⟩
  rw [nb2_room]
  replace HB := Lib.hid (show Below w.heap.size w v5 by rw [hv5]; exact HB.out.drew.drew)
  replace HX := Lib.hid (show BoxAt B R lb nb2 v5 by rw [hv5]; exact HX.out.drew.drew)
  clear hv5
  go_wp2_with fail
  refine (next_any B R lb nb2 _ HX.out).mono ?_
  rintro e v6 ⟨rfl, rfl⟩
  rw [nb2_nx]
  go_wp2_with fail
  refine (len_any B R lb nb2 _ HX.out nb2_ok).mono ?_
  rintro e v7 ⟨rfl, hv7⟩
  rw [nb2_len]
  replace HB := Lib.hid (show Below w.heap.size w v7 by rw [hv7]; exact HB.out.drew)
  clear hv7 HX
  go_wp2_with fail
  go_ret
  exact ⟨rfl, HB.out⟩
end Go.Proofs.Ytfeppkgcimgkeaa
