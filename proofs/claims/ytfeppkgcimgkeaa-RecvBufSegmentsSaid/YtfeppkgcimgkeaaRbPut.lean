/- recvbuf: Put. -/
import Derived.Test.YtfeppkgcimgkeaaRbMem
import Derived.Deep.RegionHeld
import Derived.IntWalk
namespace Go.Proofs.Ytfeppkgcimgkeaa
open Go.RowKit Go.Shelf
theorem countF_len {e : Int} {l : List Sp} (h : canonF e l = true) : (l.length : Int) ≤ countF l := by
  induction l generalizing e with
  | nil => exact Int.le_refl _
  | cons x l ih =>
    rw [canonF_cons] at h
    have := ih h.2
    show ((x :: l).length : Int) ≤ x.2 - x.1 + countF l
    rw [List.length_cons]
    omega
theorem canonF_len {e : Int} {l : List Sp} (h : canonF e l = true) : l.length ≤ 1099511627776 := by
  have := countF_len h
  have h2 := countF_nonneg h
  omega
theorem gaps_in {bl : List Sp} {lo hi : Int} (ht : takesB bl (lo, hi) = true) {k : Nat} (hk : k < (gapsL bl (lo, hi)).length) :
    lo ≤ (gapsL bl (lo, hi))[k].1 ∧ (gapsL bl (lo, hi))[k].1 < (gapsL bl (lo, hi))[k].2 ∧ (gapsL bl (lo, hi))[k].2 ≤ hi := by
  obtain ⟨hc, hm⟩ := gapsL_spec ht
  have h1 := canonF_nth hc hk
  have m1 := (hm (gapsL bl (lo, hi))[k].1).1 ⟨_, List.getElem_mem hk, by omega, by omega⟩
  have m2 := (hm ((gapsL bl (lo, hi))[k].2 - 1)).1 ⟨_, List.getElem_mem hk, by omega, by omega⟩
  dsimp only at m1 m2
  omega
theorem fills_take {rg : List UInt8} {off : Int} {s : List UInt8} {gs : List Sp} {k : Nat} (h : k < gs.length) : fillsB rg off s (gs.take (k + 1)) = fillB (fillsB rg off s (gs.take k)) gs[k].1.toNat (cutB s off gs[k]) := by
  unfold fillsB
  rw [List.take_succ_eq_append_getElem h, List.foldl_append]
  rfl
theorem fills_len {rg : List UInt8} {off : Int} {s : List UInt8} {gs : List Sp} (h1 : 1 ≤ rg.length) (h : ∀ g ∈ gs, (g.2 - g.1).toNat ≤ rg.length) : (fillsB rg off s gs).length = rg.length := by
  induction gs generalizing rg with
  | nil => rfl
  | cons g gs ih =>
    have e : (fillB rg g.1.toNat (cutB s off g)).length = rg.length := length_fillB _ _ _ h1 (Nat.le_trans (length_cutB _ _ _) (h g (by simp)))
    show (fillsB (fillB rg g.1.toNat (cutB s off g)) off s gs).length = _
    rw [ih (by omega) (fun x hx => by rw [e]; exact h x (by simp [hx])), e]
theorem At.chg {B R i : Nat} {v : Value} {w w' : World} (h : At B i v w) (hc : Chg R w w') (hne : B ≠ R) : At B i v w' := by
  have hb := hc.block B h.lt hne
  exact ⟨(World.cell?_of_block (a := ⟨B, i, none⟩) hb).trans h.1, (World.frozen?_of_block (a := ⟨B, i, none⟩) hb).trans h.2⟩
theorem SpAt.chg {w w' : World} {n₀ R : Nat} {a : Option Addr} {L : List Sp} (h : SpAt w n₀ a L) (hc : Chg R w w') (hn : n₀ ≤ w.heap.size) (hne : 0 < L.length → ∀ ad, a = some ad → ad.block ≠ R) : SpAt w' n₀ a L :=
  ⟨h.small, fun hl => by
    obtain ⟨b, off, ha, hbl, hcs⟩ := h.cells hl
    have hb := hc.block b (by omega) (hne hl _ ha)
    exact ⟨b, off, ha, hbl, fun i hi => ⟨(World.cell?_of_block (a := ⟨b, _, none⟩) hb).trans (hcs i hi).1, (World.cell?_of_block (a := ⟨b, _, none⟩) hb).trans (hcs i hi).2⟩⟩⟩
theorem SpAt.tail {w : World} {n₀ b off : Nat} {x : Sp} {L : List Sp} (h : SpAt w n₀ (some ⟨b, off, none⟩) (x :: L)) : SpAt w n₀ (some ⟨b, off + 2, none⟩) L := by
  refine ⟨by have := h.small; rw [List.length_cons] at this; omega, fun _ => ?_⟩
  obtain ⟨b', off', e, hb, hc⟩ := h.cells (by simp)
  cases e
  refine ⟨b, off + 2, rfl, hb, fun i hi => ?_⟩
  obtain ⟨c0, c1⟩ := hc (i + 1) (by simpa using hi)
  rw [show off + 2 + i * 2 = off + (i + 1) * 2 by omega]
  exact ⟨c0, c1⟩
theorem ext_cut (s : ByteArray) (off : Int) (g : Sp) (i j : Nat) (hi : g.1 - off = i) (hj : g.2 - off = j) : (s.extract i j).data.toList = cutB s.data.toList off g := by
  unfold cutB
  rw [ByteArray.data_extract, Array.toList_extract, List.extract_eq_take_drop, hi, show g.2 - g.1 = (j : Int) - i by omega]
  congr 1
  omega
set_option maxRecDepth 100000 in
set_option maxHeartbeats 4000000 in
theorem put_any (B R lb : Nat) (b : Bx) (off : Int) (s : ByteArray) (w : World) (h : BoxAt B R lb b w) (ok : b.Ok) (hlb : lb ≤ w.heap.size) (hs : s.size ≤ 4611686018427387904) :
    Calls Try.prog 14 #[.pointer (some ⟨B, 0, none⟩), .int .i64 off, .string s] w fun e w' => e = .returned (.tuple #[.int .i64 (b.putN off s.size), .int .i64 (putE off)]) ∧ BoxAt B R lb (b.put off s.data.toList) w' ∧ Chg2 B R w w' := by
  by_cases hoff : off < 0 ∨ 1099511627776 < off
  · have HP := Lib.hid (show b.putN off s.size = 0 ∧ putE off = 130 ∧ b.put off s.data.toList = b from ⟨by unfold Bx.putN; rw [if_pos hoff], by unfold putE; rw [if_pos hoff], by unfold Bx.put; rw [if_pos hoff]⟩)
    rw [HP.out.1, HP.out.2.1, HP.out.2.2]
    rcases hoff with hoff | hoff
    all_goals
      (try have hoff0 : 0 ≤ off := by omega)
      go_enter Try.func14, Try.ntmps14
      go_wp2_with fail
      exact bodyPost_ret (results_tmp2 rfl _ _ _) rfl ⟨rfl, h, Chg2.refl _ _ _⟩
  have HP := Lib.hid (show b.putN off s.size = (if b.hi off s.size ≤ b.lo off then 0 else countL (gapsL b.bl (b.lo off, b.hi off s.size))) ∧ putE off = 0 ∧ b.put off s.data.toList = (if b.hi off s.data.toList.length ≤ b.lo off then b else b.putP off s.data.toList (b.lo off, b.hi off s.data.toList.length)) from ⟨by unfold Bx.putN; rw [if_neg hoff], by unfold putE; rw [if_neg hoff], by unfold Bx.put; rw [if_neg hoff]⟩)
  rw [HP.out.1, HP.out.2.1, HP.out.2.2, show s.data.toList.length = s.size from (Lib.size_eq s).symm]
  clear HP
  obtain ⟨hoff1, hoff2⟩ : 0 ≤ off ∧ off ≤ 1099511627776 := by omega
  clear hoff
  obtain ⟨lo, hlo⟩ : ∃ lo, lo = b.lo off := ⟨_, rfl⟩
  obtain ⟨hi, hhi⟩ : ∃ hi, hi = b.hi off s.size := ⟨_, rfl⟩
  rw [← hlo, ← hhi]
  unfold Bx.lo at hlo
  unfold Bx.hi at hhi
  have HLO := Lib.hid hlo
  have HHI := Lib.hid hhi
  clear hlo hhi
  obtain ⟨a, cap, ⟨c0, -⟩, ⟨c1, -⟩, ⟨c2, -⟩, ⟨c3, -⟩, -⟩ := h.ats
  have HBX := Lib.hid h
  have HOK := Lib.hid ok
  have k1 := ok.rd0
  have k2 := ok.small
  have k3 := ok.most
  have k4 := ok.one
  have k5 := ok.rdnx
  have k6 := ok.nxend
  have hBl := h.lt
  have hos1 : off + (s.size : Int) ≤ 9223372036854775807 := by omega
  have hos2 : -9223372036854775808 ≤ off + (s.size : Int) := by omega
  clear h ok
  go_enter Try.func14, Try.ntmps14
  go_wp2_with fail
  refine wp_mono (Q := onNormal (fun a' w' => a' = { tmps := #[.pointer (some ⟨B, 0, none⟩), .int .i64 off, .string s, undef, undef, undef, .int .i64 0, .int .i64 0, .pointer (some ⟨w.heap.size, 0, none⟩), undef, undef, undef, .pointer (some ⟨B, 0, none⟩), .bool false, .int .i64 off, .bool (decide (off < 0)), .bool (decide (off < 0)), .int .i64 off, .bool (decide (1099511627776 < off)), .bool (decide (off < 0) || decide (1099511627776 < off)), .int .i64 off, .pointer (some ⟨B, 0, none⟩), .pointer (some ⟨B, 0, none⟩), .pointer (some ⟨B, 2, none⟩), .int .i64 b.nx, .int .i64 lo, .int .i64 off, .string s, .int .i64 (s.size : Int), .int .i64 (off + (s.size : Int)), .pointer (some ⟨B, 0, none⟩), .int .i64 (b.rd + (b.ring.length : Int)), .int .i64 hi, .agg #[.int .i64 lo, .int .i64 hi], undef, undef, undef, undef, undef, undef, undef, undef, undef, undef, undef, undef, undef, undef, undef, undef, undef, undef, undef, undef, undef, undef, undef, undef, undef, undef, undef, undef, undef, undef, undef, undef, undef, undef, undef, undef, undef, undef, undef, undef, undef, undef, undef, undef, undef, undef, undef, undef, undef, undef, undef, undef, undef, undef, undef, undef, undef, undef, undef, undef, undef, undef, undef, undef, undef, undef, undef, undef, undef, undef, undef, undef, undef, undef, undef, undef, undef, undef, undef, undef, undef, undef, undef, undef, undef, undef], defers := [] } ∧ BoxAt B R lb b w' ∧ At w.heap.size 0 (.int .i64 lo) w' ∧ At w.heap.size 1 (.int .i64 hi) w' ∧ Chg2 B R w w' ∧ w.heap.size + 1 ≤ w'.heap.size)) ?_ (onNormal_le ?_)
  · refine wp_region_held_drew (S := (fun w' : World => w'.cell? ⟨B, 2, none⟩ = some (.int .i64 b.nx))) (by kernel_rfl) (c2) (fun hHeld => ?_)
    refine wpAnyH_take (i := 0) (v := ?_) (by simp only [List.getElem?_toArray, List.getElem?_cons_zero]; rfl) (by kernel_rfl) (by kernel_rfl) (by kernel_rfl) (by exact fun _ _ _ h => h) (Or.inl ⟨by rfl, ?_⟩) (by assumption) ?_
    rotate_left 1
    · intro w hSw; (try dsimp only at hSw); go_simp; (try with_reducible rfl)
    (try simp only [Act.put, List.setIfInBounds_toArray, List.set_cons_zero, List.set_cons_succ])
    refine wpAnyH_take (i := 1) (v := ?_) (by simp only [List.getElem?_toArray, List.getElem?_cons_succ, List.getElem?_cons_zero]; rfl) (by kernel_rfl) (by kernel_rfl) (by kernel_rfl) (by exact fun _ _ _ h => h) (Or.inl ⟨by rfl, ?_⟩) (by assumption) ?_
    rotate_left 1
    · intro w hSw; (try dsimp only at hSw); go_simp; (try with_reducible rfl)
    (try simp only [Act.put, List.setIfInBounds_toArray, List.set_cons_zero, List.set_cons_succ])
    refine wpAnyH_take (i := 2) (v := ?_) (by simp only [List.getElem?_toArray, List.getElem?_cons_succ, List.getElem?_cons_zero]; rfl) (by kernel_rfl) (by kernel_rfl) (by kernel_rfl) (by exact fun _ _ _ h => h) (Or.inl ⟨by rfl, ?_⟩) (by assumption) ?_
    rotate_left 1
    · intro w hSw; (try dsimp only at hSw); go_simp; (try with_reducible rfl)
    (try simp only [Act.put, List.setIfInBounds_toArray, List.set_cons_zero, List.set_cons_succ])
    refine wpAnyH_take (i := 3) (v := ?_) (by simp only [List.getElem?_toArray, List.getElem?_cons_succ, List.getElem?_cons_zero]; rfl) (by kernel_rfl) (by kernel_rfl) (by kernel_rfl) (by exact fun _ _ _ h => h) (Or.inl ⟨by rfl, ?_⟩) (by assumption) ?_
    rotate_left 1
    · intro w hSw; (try dsimp only at hSw); go_simp; (try with_reducible rfl)
    (try simp only [Act.put, List.setIfInBounds_toArray, List.set_cons_zero, List.set_cons_succ])
    refine wpAnyH_take (i := 4) (v := ?_) (by simp only [List.getElem?_toArray, List.getElem?_cons_succ, List.getElem?_cons_zero]; rfl) (by kernel_rfl) (by kernel_rfl) (by kernel_rfl) (by exact fun _ _ _ h => h) (Or.inl ⟨by rfl, ?_⟩) (by assumption) ?_
    rotate_left 1
    · intro w hSw; (try dsimp only at hSw); go_simp; (try with_reducible rfl)
    (try simp only [Act.put, List.setIfInBounds_toArray, List.set_cons_zero, List.set_cons_succ])
    refine wpAnyH_take (i := 5) (v := .int .i64 lo) (by simp only [List.getElem?_toArray, List.getElem?_cons_succ, List.getElem?_cons_zero]; rfl) (by kernel_rfl) (by kernel_rfl) (by kernel_rfl) (by exact fun _ _ _ h => h) (Or.inl ⟨by rfl, ?_⟩) (by assumption) ?_
    · intro w hSw; go_simp; (have := HLO.out; split <;> (congr 3; omega))
    (try simp only [Act.put, List.setIfInBounds_toArray, List.set_cons_zero, List.set_cons_succ])
    refine wpAnyH_take (i := 6) (v := ?_) (by simp only [List.getElem?_toArray, List.getElem?_cons_succ, List.getElem?_cons_zero]; rfl) (by kernel_rfl) (by kernel_rfl) (by kernel_rfl) (by exact fun _ _ _ h => h) (Or.inl ⟨by rfl, ?_⟩) (by assumption) ?_
    rotate_left 1
    · intro w hSw; (try dsimp only at hSw); go_simp; (try with_reducible rfl)
    (try simp only [Act.put, List.setIfInBounds_toArray, List.set_cons_zero, List.set_cons_succ])
    refine wpAnyH_take (i := 7) (v := ?_) (by simp only [List.getElem?_toArray, List.getElem?_cons_succ, List.getElem?_cons_zero]; rfl) (by kernel_rfl) (by kernel_rfl) (by kernel_rfl) (by exact fun _ _ _ h => h) (Or.inl ⟨by rfl, ?_⟩) (by assumption) ?_
    rotate_left 1
    · intro w hSw; (try dsimp only at hSw); go_simp; (try with_reducible rfl)
    (try simp only [Act.put, List.setIfInBounds_toArray, List.set_cons_zero, List.set_cons_succ])
    refine wpAnyH_take (i := 8) (v := ?_) (by simp only [List.getElem?_toArray, List.getElem?_cons_succ, List.getElem?_cons_zero]; rfl) (by kernel_rfl) (by kernel_rfl) (by kernel_rfl) (by exact fun _ _ _ h => h) (Or.inl ⟨by rfl, ?_⟩) (by assumption) ?_
    rotate_left 1
    · intro w hSw; (try dsimp only at hSw); go_simp; (try with_reducible rfl)
    (try simp only [Act.put, List.setIfInBounds_toArray, List.set_cons_zero, List.set_cons_succ])
    refine wpAnyH_take (i := 9) (v := .int .i64 (off + (s.size : Int))) (by simp only [List.getElem?_toArray, List.getElem?_cons_succ, List.getElem?_cons_zero]; rfl) (by kernel_rfl) (by kernel_rfl) (by kernel_rfl) (by exact fun _ _ _ h => h) (Or.inl ⟨by rfl, ?_⟩) (by assumption) ?_
    · intro w hSw; go_simp; (first | exact IntWalk.i64_in _ ⟨hos2, hos1⟩ | rw [IntWalk.i64_in _ ⟨hos2, hos1⟩])
    (try simp only [Act.put, List.setIfInBounds_toArray, List.set_cons_zero, List.set_cons_succ])
    refine wpAnyH_take (i := 10) (v := ?_) (by simp only [List.getElem?_toArray, List.getElem?_cons_succ, List.getElem?_cons_zero]; rfl) (by kernel_rfl) (by kernel_rfl) (by kernel_rfl) (by exact fun _ _ _ h => h) (Or.inl ⟨by rfl, ?_⟩) (by assumption) ?_
    rotate_left 1
    · intro w hSw; (try dsimp only at hSw); go_simp; (try with_reducible rfl)
    (try simp only [Act.put, List.setIfInBounds_toArray, List.set_cons_zero, List.set_cons_succ])
    refine wpAnyH_ready (rs := [11, 14]) (by kernel_rfl) (by simp) ?_
    refine AllReadyH.cons (by simp only [List.getElem?_toArray, List.getElem?_cons_succ, List.getElem?_cons_zero]; rfl) (fun Kq hKq => ?_) (AllReadyH.cons (by simp only [List.getElem?_toArray, List.getElem?_cons_succ, List.getElem?_cons_zero]; rfl) (fun Kq hKq => ?_) AllReadyH.nil)
    · go_simp
      refine (end_any B R lb b _ (HBX.out.drew) HOK.out).mono ?_
      rintro e w1 ⟨rfl, rfl⟩
      go_simp
      refine hKq.out _ _ c2 (fun hHeld2 => ?_)
      clear hKq Kq hHeld
      (try simp only [Act.put, List.setIfInBounds_toArray, List.set_cons_zero, List.set_cons_succ])
      have hHeld := hHeld2
      clear hHeld2
      refine wpAnyH_take (i := 12) (v := .int .i64 hi) (by simp only [List.getElem?_toArray, List.getElem?_cons_succ, List.getElem?_cons_zero]; rfl) (by kernel_rfl) (by kernel_rfl) (by kernel_rfl) (by exact fun _ _ _ h => h) (Or.inl ⟨by rfl, ?_⟩) (by assumption) ?_
      · intro w hSw; go_simp; (have := HHI.out; split <;> (congr 3; omega))
      (try simp only [Act.put, List.setIfInBounds_toArray, List.set_cons_zero, List.set_cons_succ])
      refine wpAnyH_take (i := 13) (v := ?_) (by simp only [List.getElem?_toArray, List.getElem?_cons_succ, List.getElem?_cons_zero]; rfl) (by kernel_rfl) (by kernel_rfl) (by kernel_rfl) (by exact fun _ _ _ h => h) (Or.inl ⟨by rfl, ?_⟩) (by assumption) ?_
      rotate_left 1
      · intro w hSw; (try dsimp only at hSw); go_simp; (try with_reducible rfl)
      (try simp only [Act.put, List.setIfInBounds_toArray, List.set_cons_zero, List.set_cons_succ])
      refine wpAnyH_ready (rs := [14]) (by kernel_rfl) (by simp) ?_
      refine AllReadyH.cons (by simp only [List.getElem?_toArray, List.getElem?_cons_succ, List.getElem?_cons_zero]; rfl) (fun Kq hKq => ?_) AllReadyH.nil
      go_simp
      refine hKq.out _ _ (((Below.refl _ w).alloc (Nat.le_refl _) _ |>.cell (p := ⟨B, 2, none⟩) hBl.1).trans c2) (fun hHeld2 => ?_)
      clear hKq Kq hHeld
      (try simp only [Act.put, List.setIfInBounds_toArray, List.set_cons_zero, List.set_cons_succ])
      have hHeld := hHeld2
      clear hHeld2
      refine wpAnyH_ready (rs := [15]) (by kernel_rfl) (by simp) ?_
      refine AllReadyH.cons (by simp only [List.getElem?_toArray, List.getElem?_cons_succ, List.getElem?_cons_zero]; rfl) (fun Kq hKq => ?_) AllReadyH.nil
      go_simp
      refine hKq.out _ _ (((Below.refl _ w).alloc (Nat.le_refl _) _ |>.cell (p := ⟨B, 2, none⟩) hBl.1).trans c2) (fun hHeld2 => ?_)
      clear hKq Kq hHeld
      (try simp only [Act.put, List.setIfInBounds_toArray, List.set_cons_zero, List.set_cons_succ])
      have hHeld := hHeld2
      clear hHeld2
      refine wpAnyH_done (by kernel_rfl) ?_ _
      clear hHeld
      refine ⟨rfl, (HBX.out.alloc _).drew.drew, At.new (W := w) _ rfl rfl, At.new (W := w) _ rfl rfl, Chg2.of_below (((Below.refl _ w).alloc (Nat.le_refl _) _).drew.drew), by simp⟩
    · go_simp
      refine hKq.out _ _ (((Below.refl _ w).alloc (Nat.le_refl _) _ |>.cell (p := ⟨B, 2, none⟩) hBl.1).trans c2) (fun hHeld2 => ?_)
      clear hKq Kq hHeld
      (try simp only [Act.put, List.setIfInBounds_toArray, List.set_cons_zero, List.set_cons_succ])
      have hHeld := hHeld2
      clear hHeld2
      refine wpAnyH_ready (rs := [11]) (by kernel_rfl) (by simp) ?_
      refine AllReadyH.cons (by simp only [List.getElem?_toArray, List.getElem?_cons_succ, List.getElem?_cons_zero]; rfl) (fun Kq hKq => ?_) AllReadyH.nil
      go_simp
      refine (end_any B R lb b _ ((HBX.out.alloc _).drew) HOK.out).mono ?_
      rintro e w1 ⟨rfl, rfl⟩
      go_simp
      refine hKq.out _ _ (((Below.refl _ w).alloc (Nat.le_refl _) _ |>.cell (p := ⟨B, 2, none⟩) hBl.1).trans c2) (fun hHeld2 => ?_)
      clear hKq Kq hHeld
      (try simp only [Act.put, List.setIfInBounds_toArray, List.set_cons_zero, List.set_cons_succ])
      have hHeld := hHeld2
      clear hHeld2
      refine wpAnyH_take (i := 12) (v := .int .i64 hi) (by simp only [List.getElem?_toArray, List.getElem?_cons_succ, List.getElem?_cons_zero]; rfl) (by kernel_rfl) (by kernel_rfl) (by kernel_rfl) (by exact fun _ _ _ h => h) (Or.inl ⟨by rfl, ?_⟩) (by assumption) ?_
      · intro w hSw; go_simp; (have := HHI.out; split <;> (congr 3; omega))
      (try simp only [Act.put, List.setIfInBounds_toArray, List.set_cons_zero, List.set_cons_succ])
      refine wpAnyH_take (i := 13) (v := ?_) (by simp only [List.getElem?_toArray, List.getElem?_cons_succ, List.getElem?_cons_zero]; rfl) (by kernel_rfl) (by kernel_rfl) (by kernel_rfl) (by exact fun _ _ _ h => h) (Or.inl ⟨by rfl, ?_⟩) (by assumption) ?_
      rotate_left 1
      · intro w hSw; (try dsimp only at hSw); go_simp; (try with_reducible rfl)
      (try simp only [Act.put, List.setIfInBounds_toArray, List.set_cons_zero, List.set_cons_succ])
      refine wpAnyH_ready (rs := [15]) (by kernel_rfl) (by simp) ?_
      refine AllReadyH.cons (by simp only [List.getElem?_toArray, List.getElem?_cons_succ, List.getElem?_cons_zero]; rfl) (fun Kq hKq => ?_) AllReadyH.nil
      go_simp
      refine hKq.out _ _ (((Below.refl _ w).alloc (Nat.le_refl _) _ |>.cell (p := ⟨B, 2, none⟩) hBl.1).trans c2) (fun hHeld2 => ?_)
      clear hKq Kq hHeld
      (try simp only [Act.put, List.setIfInBounds_toArray, List.set_cons_zero, List.set_cons_succ])
      have hHeld := hHeld2
      clear hHeld2
      refine wpAnyH_done (by kernel_rfl) ?_ _
      clear hHeld
      refine ⟨rfl, (HBX.out.alloc _).drew.drew, At.new (W := w) _ rfl rfl, At.new (W := w) _ rfl rfl, Chg2.of_below (((Below.refl _ w).alloc (Nat.le_refl _) _).drew.drew), by simp⟩
  rintro a' W1 ⟨rfl, hx1, hp0, hp1, hch, hsz⟩
  clear c0 c1 c2 c3 a cap
  obtain ⟨a, cap, -, -, -, c3, -, hsp1, hcap1, hap1⟩ := hx1.ats
  have HX1 := Lib.hid hx1
  have HCH := Lib.hid hch
  have HP0 := Lib.hid hp0
  have HP1 := Lib.hid hp1
  have HSP := Lib.hid hsp1
  have HAP := Lib.hid hap1
  clear hx1 hch hsp1 hap1
  obtain ⟨p0, -⟩ := hp0
  obtain ⟨p1, -⟩ := hp1
  by_cases hlh : hi ≤ lo
  · go_wp2_with fail
    exact bodyPost_ret (results_tmp2 rfl _ _ _) rfl ⟨by (try rw [if_pos hlh]); rfl, by (try rw [if_pos hlh]); exact HX1.out, HCH.out⟩
  have htk : takesB b.bl (lo, hi) = true := takesB_iff.2 ⟨HOK.out.canon, by have := HLO.out; have := HHI.out; dsimp only; omega⟩
  have HTK := Lib.hid htk
  have hlo1 : 0 ≤ lo ∧ off ≤ lo ∧ b.rd ≤ lo := by have := HLO.out; omega
  have hhi1 : hi ≤ off + s.size ∧ hi ≤ b.rd + b.ring.length := by have := HHI.out; omega
  clear htk
  go_wp2_with fail
  refine wp_region_held_drew (S := (fun w' : World => w'.cell? ⟨B, 3, none⟩ = some (.slice a b.bl.length cap) ∧ w'.cell? ⟨w.heap.size, 0, none⟩ = some (.int .i64 lo) ∧ w'.cell? ⟨w.heap.size, 1, none⟩ = some (.int .i64 hi))) (by kernel_rfl) (⟨c3.1, p0, p1⟩) (fun hHeld => ?_)
  refine wpAnyH_take (i := 0) (v := ?_) (by simp only [List.getElem?_toArray, List.getElem?_cons_zero]; rfl) (by kernel_rfl) (by kernel_rfl) (by kernel_rfl) (by exact fun _ _ _ h => h) (Or.inl ⟨by rfl, ?_⟩) (by assumption) ?_
  rotate_left 1
  · intro w hSw; (obtain ⟨g0, g1, g2⟩ := hSw); go_simp; (try with_reducible rfl)
  (try simp only [Act.put, List.setIfInBounds_toArray, List.set_cons_zero, List.set_cons_succ])
  refine wpAnyH_take (i := 1) (v := ?_) (by simp only [List.getElem?_toArray, List.getElem?_cons_succ, List.getElem?_cons_zero]; rfl) (by kernel_rfl) (by kernel_rfl) (by kernel_rfl) (by exact fun _ _ _ h => h) (Or.inl ⟨by rfl, ?_⟩) (by assumption) ?_
  rotate_left 1
  · intro w hSw; (obtain ⟨g0, g1, g2⟩ := hSw); go_simp; (try with_reducible rfl)
  (try simp only [Act.put, List.setIfInBounds_toArray, List.set_cons_zero, List.set_cons_succ])
  refine wpAnyH_take (i := 2) (v := ?_) (by simp only [List.getElem?_toArray, List.getElem?_cons_succ, List.getElem?_cons_zero]; rfl) (by kernel_rfl) (by kernel_rfl) (by kernel_rfl) (by exact fun _ _ _ h => h) (Or.inl ⟨by rfl, ?_⟩) (by assumption) ?_
  rotate_left 1
  · intro w hSw; (obtain ⟨g0, g1, g2⟩ := hSw); go_simp; (try with_reducible rfl)
  (try simp only [Act.put, List.setIfInBounds_toArray, List.set_cons_zero, List.set_cons_succ])
  refine wpAnyH_take (i := 3) (v := ?_) (by simp only [List.getElem?_toArray, List.getElem?_cons_succ, List.getElem?_cons_zero]; rfl) (by kernel_rfl) (by kernel_rfl) (by kernel_rfl) (by exact fun _ _ _ h => h) (Or.inl ⟨by rfl, ?_⟩) (by assumption) ?_
  rotate_left 1
  · intro w hSw; (obtain ⟨g0, g1, g2⟩ := hSw); go_simp; (try with_reducible rfl)
  (try simp only [Act.put, List.setIfInBounds_toArray, List.set_cons_zero, List.set_cons_succ])
  refine wpAnyH_take (i := 4) (v := ?_) (by simp only [List.getElem?_toArray, List.getElem?_cons_succ, List.getElem?_cons_zero]; rfl) (by kernel_rfl) (by kernel_rfl) (by kernel_rfl) (by exact fun _ _ _ h => h) (Or.inl ⟨by rfl, ?_⟩) (by assumption) ?_
  rotate_left 1
  · intro w hSw; (obtain ⟨g0, g1, g2⟩ := hSw); go_simp; (try with_reducible rfl)
  (try simp only [Act.put, List.setIfInBounds_toArray, List.set_cons_zero, List.set_cons_succ])
  refine wpAnyH_ready (rs := [5]) (by kernel_rfl) (by simp) ?_
  refine AllReadyH.cons (by simp only [List.getElem?_toArray, List.getElem?_cons_succ, List.getElem?_cons_zero]; rfl) (fun Kq hKq => ?_) AllReadyH.nil
  go_simp
  refine (gaps_any W1.drew W1.heap.size a cap b.bl (lo, hi) (HSP.out.below (Below.refl _ _).drew) (Nat.le_refl _)).mono ?_
  rintro e W2 ⟨v, rfl, ho, hb2⟩
  have hx2 := HX1.out.drew.below hb2
  have q0 := HP0.out.below (W' := W2) ((Below.refl _ W1).drew.trans hb2) (show w.heap.size < W1.heap.size by omega)
  have q1 := HP1.out.below (W' := W2) ((Below.refl _ W1).drew.trans hb2) (show w.heap.size < W1.heap.size by omega)
  obtain ⟨va, vc, hv, hvs, -, hvb⟩ := ho.at (canonF_len (gapsL_spec HTK.out).1)
  subst hv
  have c3' := c3.below (W' := W2) ((Below.refl _ W1).drew.trans hb2) (show B < W1.heap.size by have := HX1.out.lt; omega)
  go_simp
  refine hKq.out _ _ (⟨c3'.1, q0.1, q1.1⟩) (fun hHeld2 => ?_)
  clear hKq Kq hHeld
  (try simp only [Act.put, List.setIfInBounds_toArray, List.set_cons_zero, List.set_cons_succ])
  have hHeld := hHeld2
  clear hHeld2
  refine wpAnyH_take (i := 6) (v := ?_) (by simp only [List.getElem?_toArray, List.getElem?_cons_succ, List.getElem?_cons_zero]; rfl) (by kernel_rfl) (by kernel_rfl) (by kernel_rfl) (by exact fun _ _ _ h => h) (Or.inl ⟨by rfl, ?_⟩) (by assumption) ?_
  rotate_left 1
  · intro w hSw; (obtain ⟨g0, g1, g2⟩ := hSw); go_simp; (try with_reducible rfl)
  (try simp only [Act.put, List.setIfInBounds_toArray, List.set_cons_zero, List.set_cons_succ])
  refine wpAnyH_done (by kernel_rfl) ?_ _
  clear hHeld
  have HX2 := Lib.hid hx2
  have HQ0 := Lib.hid q0
  have HQ1 := Lib.hid q1
  have HVS := Lib.hid hvs
  have hB1 := HX1.out.lt
  have HVA := Lib.hid (show Apart B R lb (gapsL b.bl (lo, hi)) va from ⟨fun ad e => (hvb ad e).2.2, fun _ ad e => by have := (hvb ad e).1; have h2 : W1.heap.size ≤ ad.block := this; have := HCH.out.size; omega⟩)
  have HC2 := Lib.hid (HCH.out.trans (Chg2.of_below (B := B) (R := R) ((Below.refl _ W1).drew.trans hb2)))
  have hs2 : w.heap.size + 1 ≤ W2.heap.size := Nat.le_trans hsz hb2.size
  have hs2b : W1.heap.size ≤ W2.heap.size := hb2.size
  have HGI := Lib.hid (fun k (hk : k < (gapsL b.bl (lo, hi)).length) => gaps_in HTK.out hk)
  have HGL := Lib.hid (canonF_len (gapsL_spec HTK.out).1)
  clear hx2 q0 q1 hvs hvb ho c3 c3' p0 p1 hb2 hsz
  generalize hgs : gapsL b.bl (lo, hi) = gs at HGI HVS HVA HGL ⊢
  have HGS := Lib.hid hgs
  clear hgs
  have hgl := HGL.out
  go_wp2_with fail
  go_loopw [47] (fun p wr => ∃ k : Nat, k ≤ gs.length ∧ p = .int .i64 k ∧ BoxAt B R lb { b with ring := fillsB b.ring off s.data.toList (gs.take k) } wr ∧ At w.heap.size 0 (.int .i64 lo) wr ∧ At w.heap.size 1 (.int .i64 hi) wr ∧ SpAt wr W2.heap.size va gs ∧ Chg2 B R w wr ∧ W2.heap.size ≤ wr.heap.size) (fun p _ => gs.length - (intOf p).toNat)
  case atStart => exact ⟨0, Nat.zero_le _, rfl, HX2.out, HQ0.out, HQ1.out, HVS.out, HC2.out, Nat.le_refl _⟩
  case round =>
    obtain ⟨k, hk, rfl, hbx, hq0, hq1, hvs, hch, hsw⟩ := hrel
    have HBk := Lib.hid hbx
    have HQ0 := Lib.hid hq0
    have HQ1 := Lib.hid hq1
    have HV := Lib.hid hvs
    have HCk := Lib.hid hch
    by_cases hlt : k < gs.length
    · obtain ⟨vb, vo, hva, hvl, hcs⟩ := hvs.cells (by omega)
      have hvne := HVA.out.2 (by omega) _ hva
      subst hva
      obtain ⟨g0, g1⟩ := hcs k hlt
      obtain ⟨b1, b2, b3⟩ := HGI.out k hlt
      obtain ⟨qn, hqn⟩ := Int.eq_ofNat_of_zero_le (show 0 ≤ gs[k].1 by omega)
      obtain ⟨i, hi1⟩ := Int.eq_ofNat_of_zero_le (show 0 ≤ gs[k].1 - off by omega)
      obtain ⟨j, hj1⟩ := Int.eq_ofNat_of_zero_le (show 0 ≤ gs[k].2 - off by omega)
      have HFT := Lib.hid (fills_take (rg := b.ring) (off := off) (s := s.data.toList) hlt)
      have HEX := Lib.hid (ext_cut s off gs[k] i j hi1 hj1)
      have HTN := Lib.hid (show gs[k].1.toNat = qn by omega)
      have hfl : (fillsB b.ring off s.data.toList (gs.take k)).length = b.ring.length := fills_len k4 (fun g hg => by obtain ⟨x, hx, rfl⟩ := List.mem_iff_getElem.1 (List.mem_of_mem_take hg); have := HGI.out x hx; omega)
      have hij : i ≤ j := by omega
      have hjs : j ≤ s.size := by omega
      have hjl : j - i ≤ b.ring.length := by omega
      have hqs : qn ≤ 4611686018427387904 := by omega
      generalize gs[k] = gk at *
      obtain ⟨gk1, gk2⟩ := gk
      dsimp only at g0 g1 b1 b2 b3 hqn hi1 hj1
      subst hqn
      have hlt2 : (k : Int) < (gs.length : Int) := by omega
      have hwl : w.heap.size < wr.heap.size := by omega
      clear hbx hq0 hq1 hvs hch hcs
      go_wp2_with fail
      have hx3 := (HBk.out.alloc (.cells #[.int .i64 (qn : Int), .int .i64 gk2] 51)).drew
      have HX3 := Lib.hid hx3
      have z0 : At wr.heap.size 0 (.int .i64 (qn : Int)) (wr.alloc (.cells #[.int .i64 (qn : Int), .int .i64 gk2] 51)).drew := At.new (W := wr) _ rfl rfl
      have z1 : At wr.heap.size 1 (.int .i64 gk2) (wr.alloc (.cells #[.int .i64 (qn : Int), .int .i64 gk2] 51)).drew := At.new (W := wr) _ rfl rfl
      clear hx3
      refine wp_region_held_drew (S := (fun w' : World => w'.cell? ⟨wr.heap.size, 0, none⟩ = some (.int .i64 (qn : Int)) ∧ w'.cell? ⟨wr.heap.size, 1, none⟩ = some (.int .i64 gk2))) (by kernel_rfl) (⟨z0.1, z1.1⟩) (fun hHeld => ?_)
      refine wpAnyH_take (i := 0) (v := ?_) (by simp only [List.getElem?_toArray, List.getElem?_cons_zero]; rfl) (by kernel_rfl) (by kernel_rfl) (by kernel_rfl) (by exact fun _ _ _ h => h) (Or.inl ⟨by rfl, ?_⟩) (by assumption) ?_
      rotate_left 1
      · intro w hSw; (obtain ⟨y0, y1⟩ := hSw); go_simp; (try with_reducible rfl)
      (try simp only [Act.put, List.setIfInBounds_toArray, List.set_cons_zero, List.set_cons_succ])
      refine wpAnyH_take (i := 1) (v := ?_) (by simp only [List.getElem?_toArray, List.getElem?_cons_succ, List.getElem?_cons_zero]; rfl) (by kernel_rfl) (by kernel_rfl) (by kernel_rfl) (by exact fun _ _ _ h => h) (Or.inl ⟨by rfl, ?_⟩) (by assumption) ?_
      rotate_left 1
      · intro w hSw; (obtain ⟨y0, y1⟩ := hSw); go_simp; (try with_reducible rfl)
      (try simp only [Act.put, List.setIfInBounds_toArray, List.set_cons_zero, List.set_cons_succ])
      refine wpAnyH_take (i := 2) (v := ?_) (by simp only [List.getElem?_toArray, List.getElem?_cons_succ, List.getElem?_cons_zero]; rfl) (by kernel_rfl) (by kernel_rfl) (by kernel_rfl) (by exact fun _ _ _ h => h) (Or.inl ⟨by rfl, ?_⟩) (by assumption) ?_
      rotate_left 1
      · intro w hSw; (obtain ⟨y0, y1⟩ := hSw); go_simp; (try with_reducible rfl)
      (try simp only [Act.put, List.setIfInBounds_toArray, List.set_cons_zero, List.set_cons_succ])
      refine wpAnyH_take (i := 3) (v := ?_) (by simp only [List.getElem?_toArray, List.getElem?_cons_succ, List.getElem?_cons_zero]; rfl) (by kernel_rfl) (by kernel_rfl) (by kernel_rfl) (by exact fun _ _ _ h => h) (Or.inl ⟨by rfl, ?_⟩) (by assumption) ?_
      rotate_left 1
      · intro w hSw; (obtain ⟨y0, y1⟩ := hSw); go_simp; (try with_reducible rfl)
      (try simp only [Act.put, List.setIfInBounds_toArray, List.set_cons_zero, List.set_cons_succ])
      refine wpAnyH_take (i := 4) (v := ?_) (by simp only [List.getElem?_toArray, List.getElem?_cons_succ, List.getElem?_cons_zero]; rfl) (by kernel_rfl) (by kernel_rfl) (by kernel_rfl) (by exact fun _ _ _ h => h) (Or.inl ⟨by rfl, ?_⟩) (by assumption) ?_
      rotate_left 1
      · intro w hSw; (obtain ⟨y0, y1⟩ := hSw); go_simp; (try with_reducible rfl)
      (try simp only [Act.put, List.setIfInBounds_toArray, List.set_cons_zero, List.set_cons_succ])
      refine wpAnyH_take (i := 5) (v := ?_) (by simp only [List.getElem?_toArray, List.getElem?_cons_succ, List.getElem?_cons_zero]; rfl) (by kernel_rfl) (by kernel_rfl) (by kernel_rfl) (by exact fun _ _ _ h => h) (Or.inl ⟨by rfl, ?_⟩) (by assumption) ?_
      rotate_left 1
      · intro w hSw; (obtain ⟨y0, y1⟩ := hSw); go_simp; (try with_reducible rfl)
      (try simp only [Act.put, List.setIfInBounds_toArray, List.set_cons_zero, List.set_cons_succ])
      refine wpAnyH_take (i := 6) (v := ?_) (by simp only [List.getElem?_toArray, List.getElem?_cons_succ, List.getElem?_cons_zero]; rfl) (by kernel_rfl) (by kernel_rfl) (by kernel_rfl) (by exact fun _ _ _ h => h) (Or.inl ⟨by rfl, ?_⟩) (by assumption) ?_
      rotate_left 1
      · intro w hSw; (obtain ⟨y0, y1⟩ := hSw); go_simp; (try with_reducible rfl)
      (try simp only [Act.put, List.setIfInBounds_toArray, List.set_cons_zero, List.set_cons_succ])
      refine wpAnyH_take (i := 7) (v := .int .i64 (i : Int)) (by simp only [List.getElem?_toArray, List.getElem?_cons_succ, List.getElem?_cons_zero]; rfl) (by kernel_rfl) (by kernel_rfl) (by kernel_rfl) (by exact fun _ _ _ h => h) (Or.inl ⟨by rfl, ?_⟩) (by assumption) ?_
      · intro w hSw; (obtain ⟨y0, y1⟩ := hSw); go_simp; (exact IntWalk.i64_in (i : Int) ⟨by omega, by omega⟩)
      (try simp only [Act.put, List.setIfInBounds_toArray, List.set_cons_zero, List.set_cons_succ])
      refine wpAnyH_take (i := 8) (v := ?_) (by simp only [List.getElem?_toArray, List.getElem?_cons_succ, List.getElem?_cons_zero]; rfl) (by kernel_rfl) (by kernel_rfl) (by kernel_rfl) (by exact fun _ _ _ h => h) (Or.inl ⟨by rfl, ?_⟩) (by assumption) ?_
      rotate_left 1
      · intro w hSw; (obtain ⟨y0, y1⟩ := hSw); go_simp; (try with_reducible rfl)
      (try simp only [Act.put, List.setIfInBounds_toArray, List.set_cons_zero, List.set_cons_succ])
      refine wpAnyH_take (i := 9) (v := ?_) (by simp only [List.getElem?_toArray, List.getElem?_cons_succ, List.getElem?_cons_zero]; rfl) (by kernel_rfl) (by kernel_rfl) (by kernel_rfl) (by exact fun _ _ _ h => h) (Or.inl ⟨by rfl, ?_⟩) (by assumption) ?_
      rotate_left 1
      · intro w hSw; (obtain ⟨y0, y1⟩ := hSw); go_simp; (try with_reducible rfl)
      (try simp only [Act.put, List.setIfInBounds_toArray, List.set_cons_zero, List.set_cons_succ])
      refine wpAnyH_take (i := 10) (v := ?_) (by simp only [List.getElem?_toArray, List.getElem?_cons_succ, List.getElem?_cons_zero]; rfl) (by kernel_rfl) (by kernel_rfl) (by kernel_rfl) (by exact fun _ _ _ h => h) (Or.inl ⟨by rfl, ?_⟩) (by assumption) ?_
      rotate_left 1
      · intro w hSw; (obtain ⟨y0, y1⟩ := hSw); go_simp; (try with_reducible rfl)
      (try simp only [Act.put, List.setIfInBounds_toArray, List.set_cons_zero, List.set_cons_succ])
      refine wpAnyH_take (i := 11) (v := .int .i64 (j : Int)) (by simp only [List.getElem?_toArray, List.getElem?_cons_succ, List.getElem?_cons_zero]; rfl) (by kernel_rfl) (by kernel_rfl) (by kernel_rfl) (by exact fun _ _ _ h => h) (Or.inl ⟨by rfl, ?_⟩) (by assumption) ?_
      · intro w hSw; (obtain ⟨y0, y1⟩ := hSw); go_simp; (exact IntWalk.i64_in (j : Int) ⟨by omega, by omega⟩)
      (try simp only [Act.put, List.setIfInBounds_toArray, List.set_cons_zero, List.set_cons_succ])
      refine wpAnyH_take (i := 12) (v := .string (s.extract i j)) (by simp only [List.getElem?_toArray, List.getElem?_cons_succ, List.getElem?_cons_zero]; rfl) (by kernel_rfl) (by kernel_rfl) (by kernel_rfl) (by exact fun _ _ _ h => h) (Or.inl ⟨by rfl, ?_⟩) (by assumption) ?_
      · intro w hSw; (obtain ⟨y0, y1⟩ := hSw); go_simp; (first | done | skip)
      (try simp only [Act.put, List.setIfInBounds_toArray, List.set_cons_zero, List.set_cons_succ])
      refine wpAnyH_ready (rs := [13]) (by kernel_rfl) (by simp) ?_
      refine AllReadyH.cons (by simp only [List.getElem?_toArray, List.getElem?_cons_succ, List.getElem?_cons_zero]; rfl) (fun Kq hKq => ?_) AllReadyH.nil
      go_simp
      refine (fill_any B R (fillsB b.ring off s.data.toList (gs.take k)) qn (s.extract i j) (wr.alloc (.cells #[.int .i64 (qn : Int), .int .i64 gk2] 51)).drew (by obtain ⟨_, _, h, _⟩ := HX3.out.ats; exact h.1) HX3.out.2.1 HX3.out.1 (by rw [hfl]; exact k4) (by rw [hfl]; exact k3) (by rw [ByteArray.size_extract, hfl]; omega) hqs).mono ?_
      rintro e W3 ⟨rfl, hr3, hc3⟩
      go_simp
      refine hKq.out _ _ (⟨chg_cell hc3 z0.1 (by have := HBk.out.lt; omega), chg_cell hc3 z1.1 (by have := HBk.out.lt; omega)⟩) (fun hHeld2 => ?_)
      clear hKq Kq hHeld
      (try simp only [Act.put, List.setIfInBounds_toArray, List.set_cons_zero, List.set_cons_succ])
      have hHeld := hHeld2
      clear hHeld2
      refine wpAnyH_done (by kernel_rfl) ?_ _
      clear hHeld z0 z1
      have hal : Chg2 B R wr (wr.alloc (.cells #[.int .i64 (qn : Int), .int .i64 gk2] 51)).drew := Chg2.of_below ((Below.refl _ wr).alloc (Nat.le_refl _) _).drew
      have hx4 := HX3.out.ring (rg := fillB (fillsB b.ring off s.data.toList (gs.take k)) qn (s.extract i j).data.toList) (by rw [length_fillB _ _ _ (by rw [hfl]; exact k4) (by rw [← Lib.size_eq, ByteArray.size_extract, hfl]; omega)]) hr3 hc3
      have hne3 : w.heap.size ≠ R := by omega
      have hbk2 := HBk.out.lt
      have y0 := ((HQ0.out.alloc (.cells #[.int .i64 (qn : Int), .int .i64 gk2] 51)))
      have y1 := ((HQ1.out.alloc (.cells #[.int .i64 (qn : Int), .int .i64 gk2] 51)))
      have hR3 : Hid (BoxAt B R lb { b with ring := fillsB b.ring off s.data.toList (gs.take (k + 1)) } W3 ∧ At w.heap.size 0 (.int .i64 lo) W3 ∧ At w.heap.size 1 (.int .i64 hi) W3 ∧ SpAt W3 W2.heap.size (some ⟨vb, vo, none⟩) gs ∧ Chg2 B R w W3 ∧ W2.heap.size ≤ W3.heap.size) := by
        refine ⟨?_, y0.chg hc3.drew0 hne3, y1.chg hc3.drew0 hne3, ?_, HCk.out.trans (hal.trans (Chg2.of2 hc3)), ?_⟩
        · rw [HFT.out, HTN.out, ← HEX.out]; exact hx4
        · refine SpAt.chg (HV.out.below ((Below.refl _ wr).alloc hsw _)) hc3.drew0 (by simp; omega) (fun _ ad e => by cases e; exact hvne.2.1)
        · have := hc3.size; simp at this; omega
      clear hx4 y0 y1 hc3 hr3 hal
      go_wp2_with fail
      go_roundw
      case rel => exact ⟨k + 1, by omega, by go_num, hR3.out⟩
      case measure => simp [intOf]; omega
    · obtain rfl : k = gs.length := by omega
      rw [List.take_length] at HBk
      obtain ⟨a2, cap2, -, -, -, n3, n4, hsp2, hcap2, -⟩ := HBk.out.ats
      obtain ⟨n4a, n4b⟩ := n4
      obtain ⟨q0a, q0b⟩ := HQ0.out
      obtain ⟨q1a, q1b⟩ := HQ1.out
      have hBk := HBk.out.lt
      have hsw2 : w.heap.size < wr.heap.size := by omega
      have HN := Lib.hid (HBk.out.set (b' := { b with ring := fillsB b.ring off s.data.toList gs, nw := lo }) 4 (.int .i64 lo) rfl rfl (fun _ _ => rfl))
      have HN3 := Lib.hid (n3.other ⟨B, 4, none⟩ (.int .i64 lo) (by simp))
      have HSP2 := Lib.hid hsp2
      have HN3o := Lib.hid n3
      clear hsp2 n3 hbx hq0 hq1 hvs hch
      go_wp2_with fail
      have HC5 := Lib.hid (HCk.out.trans (Chg2.of1 (R := R) (((Chg.refl B wr).setCell 4 (.int .i64 lo)))))
      have HP0 := Lib.hid (HQ0.out.ob (C := B) (j := 4) (.int .i64 lo) (by omega))
      have HP1 := Lib.hid (HQ1.out.ob (C := B) (j := 4) (.int .i64 lo) (by omega))
      have HV5 := Lib.hid (SpAt.chg HV.out ((Chg.refl B wr).setCell 4 (.int .i64 lo)) hsw (fun hp ad e => (HVA.out.2 hp ad e).1))
      have hs5 : (wr.setCell ⟨B, 4, none⟩ (.int .i64 lo)).heap.size = wr.heap.size := by simp [World.setCell]
      generalize wr.setCell ⟨B, 4, none⟩ (.int .i64 lo) = W5 at *
      obtain ⟨a5, cap5, -, -, -, m3, -, sp5, cl5, ap5⟩ := HN.out.ats
      have HSP5 := Lib.hid sp5
      have HM3 := Lib.hid m3
      obtain ⟨m3a, m3b⟩ := m3
      obtain ⟨p0a, p0b⟩ := HP0.out
      obtain ⟨p1a, p1b⟩ := HP1.out
      dsimp only at m3a cl5
      clear sp5 q0a q0b q1a q1b n4a n4b HN3 HSP2 HN3o hcap2
      refine wp_region_held_drew (S := (fun w' : World => w'.cell? ⟨w.heap.size, 0, none⟩ = some (.int .i64 lo) ∧ w'.cell? ⟨w.heap.size, 1, none⟩ = some (.int .i64 hi))) (by kernel_rfl) (⟨p0a, p1a⟩) (fun hHeld => ?_)
      refine wpAnyH_take (i := 0) (v := ?_) (by simp only [List.getElem?_toArray, List.getElem?_cons_zero]; rfl) (by kernel_rfl) (by kernel_rfl) (by kernel_rfl) (by exact fun _ _ _ h => h) (Or.inl ⟨by rfl, ?_⟩) (by assumption) ?_
      rotate_left 1
      · intro w hSw; (obtain ⟨y0, y1⟩ := hSw); go_simp; (try with_reducible rfl)
      (try simp only [Act.put, List.setIfInBounds_toArray, List.set_cons_zero, List.set_cons_succ])
      refine wpAnyH_take (i := 1) (v := ?_) (by simp only [List.getElem?_toArray, List.getElem?_cons_succ, List.getElem?_cons_zero]; rfl) (by kernel_rfl) (by kernel_rfl) (by kernel_rfl) (by exact fun _ _ _ h => h) (Or.inl ⟨by rfl, ?_⟩) (by assumption) ?_
      rotate_left 1
      · intro w hSw; (obtain ⟨y0, y1⟩ := hSw); go_simp; (try with_reducible rfl)
      (try simp only [Act.put, List.setIfInBounds_toArray, List.set_cons_zero, List.set_cons_succ])
      refine wpAnyH_take (i := 2) (v := ?_) (by simp only [List.getElem?_toArray, List.getElem?_cons_succ, List.getElem?_cons_zero]; rfl) (by kernel_rfl) (by kernel_rfl) (by kernel_rfl) (by exact fun _ _ _ h => h) (Or.inl ⟨by rfl, ?_⟩) (by assumption) ?_
      rotate_left 1
      · intro w hSw; (obtain ⟨y0, y1⟩ := hSw); go_simp; (try with_reducible rfl)
      (try simp only [Act.put, List.setIfInBounds_toArray, List.set_cons_zero, List.set_cons_succ])
      refine wpAnyH_take (i := 3) (v := ?_) (by simp only [List.getElem?_toArray, List.getElem?_cons_succ, List.getElem?_cons_zero]; rfl) (by kernel_rfl) (by kernel_rfl) (by kernel_rfl) (by exact fun _ _ _ h => h) (Or.inl ⟨by rfl, ?_⟩) (by assumption) ?_
      rotate_left 1
      · intro w hSw; (obtain ⟨y0, y1⟩ := hSw); go_simp; (try with_reducible rfl)
      (try simp only [Act.put, List.setIfInBounds_toArray, List.set_cons_zero, List.set_cons_succ])
      refine wpAnyH_take (i := 5) (v := ?_) (by simp only [List.getElem?_toArray, List.getElem?_cons_succ, List.getElem?_cons_zero]; rfl) (by kernel_rfl) (by kernel_rfl) (by kernel_rfl) (by exact fun _ _ _ h => h) (Or.inl ⟨by rfl, ?_⟩) (by assumption) ?_
      rotate_left 1
      · intro w hSw; (obtain ⟨y0, y1⟩ := hSw); go_simp; (try with_reducible rfl)
      (try simp only [Act.put, List.setIfInBounds_toArray, List.set_cons_zero, List.set_cons_succ])
      refine wpAnyH_ready (rs := [4]) (by kernel_rfl) (by simp) ?_
      refine AllReadyH.cons (by simp only [List.getElem?_toArray, List.getElem?_cons_succ, List.getElem?_cons_zero]; rfl) (fun Kq hKq => ?_) AllReadyH.nil
      go_simp
      refine hKq.out _ _ (⟨p0a, p1a⟩) (fun hHeld2 => ?_)
      clear hKq Kq hHeld
      (try simp only [Act.put, List.setIfInBounds_toArray, List.set_cons_zero, List.set_cons_succ])
      have hHeld := hHeld2
      clear hHeld2
      refine wpAnyH_ready (rs := [6]) (by kernel_rfl) (by simp) ?_
      refine AllReadyH.cons (by simp only [List.getElem?_toArray, List.getElem?_cons_succ, List.getElem?_cons_zero]; rfl) (fun Kq hKq => ?_) AllReadyH.nil
      go_simp
      refine (add_any W5.drew W5.heap.size a5 cap5 b.bl (lo, hi) (HSP5.out.below (Below.refl _ _).drew) (Nat.le_refl _) cl5).mono ?_
      rintro e W6 ⟨v, rfl, ho, hb6⟩
      have hb6' : Below W5.heap.size W5 W6 := (Below.refl _ W5).drew.trans hb6
      have r0 := HP0.out.below (W' := W6) hb6' (by omega)
      have r1 := HP1.out.below (W' := W6) hb6' (by omega)
      obtain ⟨va6, vc6, hv, hvs6, hvc6, hvb6⟩ := ho.at (canonF_len (addL_spec HTK.out).1)
      subst hv
      have hx6 := HN.out.below hb6'
      obtain ⟨_, _, -, -, -, ⟨u3a, u3b⟩, -⟩ := hx6.ats
      go_simp
      refine hKq.out _ _ (⟨r0.1, r1.1⟩) (fun hHeld2 => ?_)
      clear hKq Kq hHeld
      (try simp only [Act.put, List.setIfInBounds_toArray, List.set_cons_zero, List.set_cons_succ])
      have hHeld := hHeld2
      clear hHeld2
      refine wpAnyH_take (i := 7) (v := ?_) (by simp only [List.getElem?_toArray, List.getElem?_cons_succ, List.getElem?_cons_zero]; rfl) (by kernel_rfl) (by kernel_rfl) (by kernel_rfl) (by exact fun _ _ _ h => h) (Or.inl ⟨by rfl, ?_⟩) (by assumption) ?_
      rotate_left 1
      · intro w hSw; (obtain ⟨y0, y1⟩ := hSw); go_simp; (try with_reducible rfl)
      (try simp only [Act.put, List.setIfInBounds_toArray, List.set_cons_zero, List.set_cons_succ])
      refine wpAnyH_take (i := 8) (v := ?_) (by simp only [List.getElem?_toArray, List.getElem?_cons_succ, List.getElem?_cons_zero]; rfl) (by kernel_rfl) (by kernel_rfl) (by kernel_rfl) (by exact fun _ _ _ h => h) (Or.inl ⟨by rfl, ?_⟩) (by assumption) ?_
      rotate_left 1
      · intro w hSw; (obtain ⟨y0, y1⟩ := hSw); go_simp; (try with_reducible rfl)
      (try simp only [Act.put, List.setIfInBounds_toArray, List.set_cons_zero, List.set_cons_succ])
      have hBR : w.heap.size ≠ B := by omega
      refine wpAnyH_ready (rs := [9]) (by kernel_rfl) (by simp) ?_
      refine AllReadyH.cons (by simp only [List.getElem?_toArray, List.getElem?_cons_succ, List.getElem?_cons_zero]; rfl) (fun Kq hKq => ?_) AllReadyH.nil
      go_simp
      refine hKq.out _ _ (⟨(r0.ob _ (by omega)).1, (r1.ob _ (by omega)).1⟩) (fun hHeld2 => ?_)
      clear hKq Kq hHeld
      (try simp only [Act.put, List.setIfInBounds_toArray, List.set_cons_zero, List.set_cons_succ])
      have hHeld := hHeld2
      clear hHeld2
      refine wpAnyH_done (by kernel_rfl) ?_ _
      clear hHeld
      have HX7 := Lib.hid (hx6.setBl va6 vc6 (addL b.bl (lo, hi)) hvs6 hvc6 ⟨fun ad e => (hvb6 ad e).2.2, fun _ ad e => by have h1 := (hvb6 ad e).1; have h2 : W5.heap.size ≤ ad.block := h1; have := HC5.out.size; omega⟩)
      have HC7 := Lib.hid ((HC5.out.trans (Chg2.of_below hb6')).trans (Chg2.of1 (R := R) ((Chg.refl B W6).setCell 3 (.slice va6 (addL b.bl (lo, hi)).length vc6))))
      have HV7 := Lib.hid (SpAt.chg (HV5.out.below (hb6'.mono (by omega))) ((Chg.refl B W6).setCell 3 (.slice va6 (addL b.bl (lo, hi)).length vc6)) (by have := hb6'.size; omega) (fun hp ad e => (HVA.out.2 hp ad e).1))
      have hs7 : W5.heap.size ≤ (W6.setCell ⟨B, 3, none⟩ (.slice va6 (addL b.bl (lo, hi)).length vc6)).heap.size := by simp [World.setCell]; exact hb6'.size
      clear r0 r1 hx6 hvs6 hvb6 u3a u3b hb6 hb6' ho
      obtain ⟨x, tl, hal⟩ : ∃ x tl, addL b.bl (lo, hi) = x :: tl := by
        have hm := (addL_spec HTK.out).2 lo
        cases hc : addL b.bl (lo, hi) with
        | nil => rw [hc] at hm; exact (mem_nil (hm.2 (.inl ⟨Int.le_refl _, by dsimp only; omega⟩))).elim
        | cons x tl => exact ⟨x, tl, rfl⟩
      have HAL := Lib.hid hal
      rw [hal] at HX7 HC7 HV7 hs7 hvc6 ⊢
      clear hal
      generalize W6.setCell ⟨B, 3, none⟩ (.slice va6 (x :: tl).length vc6) = W7 at *
      obtain ⟨a7, cap7, -, -, ⟨n2a, n2b⟩, ⟨n3a, n3b⟩, -, sp7, cl7, ap7⟩ := HX7.out.ats
      obtain ⟨xb, xo, hxa, hxl, hxc⟩ := sp7.cells (by simp)
      have hxne := ap7.2 (by simp) _ hxa
      subst hxa
      obtain ⟨x0, x1⟩ := hxc 0 (by simp)
      obtain ⟨y1, y2⟩ := x
      simp only [Nat.zero_mul, Nat.add_zero, List.getElem_cons_zero] at x0 x1
      have HSP7 := Lib.hid sp7
      dsimp only at n2a n3a cl7
      simp only [List.length_cons] at n3a cl7 hvc6 ⊢
      clear hxc sp7
      have HHI2 := Lib.hid (show lo < hi from by omega)
      by_cases hyn : y1 = b.nx
      · subst hyn
        go_wp2_with fail
        refine wp_region_held_drew (S := (fun w' : World => w'.cell? ⟨B, 2, none⟩ = some (.int .i64 b.nx) ∧ w'.cell? ⟨B, 3, none⟩ = some (.slice (some ⟨xb, xo, none⟩) (tl.length + 1) cap7) ∧ w'.cell? ⟨xb, xo, none⟩ = some (.int .i64 b.nx))) (by kernel_rfl) (⟨n2a, n3a, x0⟩) (fun hHeld => ?_)
        refine wpAnyH_take (i := 0) (v := ?_) (by simp only [List.getElem?_toArray, List.getElem?_cons_zero]; rfl) (by kernel_rfl) (by kernel_rfl) (by kernel_rfl) (by exact fun _ _ _ h => h) (Or.inl ⟨by rfl, ?_⟩) (by assumption) ?_
        rotate_left 1
        · intro w hSw; (obtain ⟨e0, e1, e2⟩ := hSw); go_simp; (try with_reducible rfl)
        (try simp only [Act.put, List.setIfInBounds_toArray, List.set_cons_zero, List.set_cons_succ])
        refine wpAnyH_take (i := 1) (v := ?_) (by simp only [List.getElem?_toArray, List.getElem?_cons_succ, List.getElem?_cons_zero]; rfl) (by kernel_rfl) (by kernel_rfl) (by kernel_rfl) (by exact fun _ _ _ h => h) (Or.inl ⟨by rfl, ?_⟩) (by assumption) ?_
        rotate_left 1
        · intro w hSw; (obtain ⟨e0, e1, e2⟩ := hSw); go_simp; (try with_reducible rfl)
        (try simp only [Act.put, List.setIfInBounds_toArray, List.set_cons_zero, List.set_cons_succ])
        refine wpAnyH_take (i := 2) (v := ?_) (by simp only [List.getElem?_toArray, List.getElem?_cons_succ, List.getElem?_cons_zero]; rfl) (by kernel_rfl) (by kernel_rfl) (by kernel_rfl) (by exact fun _ _ _ h => h) (Or.inl ⟨by rfl, ?_⟩) (by assumption) ?_
        rotate_left 1
        · intro w hSw; (obtain ⟨e0, e1, e2⟩ := hSw); go_simp; (try with_reducible rfl)
        (try simp only [Act.put, List.setIfInBounds_toArray, List.set_cons_zero, List.set_cons_succ])
        refine wpAnyH_take (i := 3) (v := ?_) (by simp only [List.getElem?_toArray, List.getElem?_cons_succ, List.getElem?_cons_zero]; rfl) (by kernel_rfl) (by kernel_rfl) (by kernel_rfl) (by exact fun _ _ _ h => h) (Or.inl ⟨by rfl, ?_⟩) (by assumption) ?_
        rotate_left 1
        · intro w hSw; (obtain ⟨e0, e1, e2⟩ := hSw); go_simp; (try with_reducible rfl)
        (try simp only [Act.put, List.setIfInBounds_toArray, List.set_cons_zero, List.set_cons_succ])
        refine wpAnyH_take (i := 4) (v := ?_) (by simp only [List.getElem?_toArray, List.getElem?_cons_succ, List.getElem?_cons_zero]; rfl) (by kernel_rfl) (by kernel_rfl) (by kernel_rfl) (by exact fun _ _ _ h => h) (Or.inl ⟨by rfl, ?_⟩) (by assumption) ?_
        rotate_left 1
        · intro w hSw; (obtain ⟨e0, e1, e2⟩ := hSw); go_simp; (try with_reducible rfl)
        (try simp only [Act.put, List.setIfInBounds_toArray, List.set_cons_zero, List.set_cons_succ])
        refine wpAnyH_take (i := 5) (v := ?_) (by simp only [List.getElem?_toArray, List.getElem?_cons_succ, List.getElem?_cons_zero]; rfl) (by kernel_rfl) (by kernel_rfl) (by kernel_rfl) (by exact fun _ _ _ h => h) (Or.inl ⟨by rfl, ?_⟩) (by assumption) ?_
        rotate_left 1
        · intro w hSw; (obtain ⟨e0, e1, e2⟩ := hSw); go_simp; (try with_reducible rfl)
        (try simp only [Act.put, List.setIfInBounds_toArray, List.set_cons_zero, List.set_cons_succ])
        refine wpAnyH_take (i := 6) (v := ?_) (by simp only [List.getElem?_toArray, List.getElem?_cons_succ, List.getElem?_cons_zero]; rfl) (by kernel_rfl) (by kernel_rfl) (by kernel_rfl) (by exact fun _ _ _ h => h) (Or.inl ⟨by rfl, ?_⟩) (by assumption) ?_
        rotate_left 1
        · intro w hSw; (obtain ⟨e0, e1, e2⟩ := hSw); go_simp; (try with_reducible rfl)
        (try simp only [Act.put, List.setIfInBounds_toArray, List.set_cons_zero, List.set_cons_succ])
        refine wpAnyH_take (i := 7) (v := ?_) (by simp only [List.getElem?_toArray, List.getElem?_cons_succ, List.getElem?_cons_zero]; rfl) (by kernel_rfl) (by kernel_rfl) (by kernel_rfl) (by exact fun _ _ _ h => h) (Or.inl ⟨by rfl, ?_⟩) (by assumption) ?_
        rotate_left 1
        · intro w hSw; (obtain ⟨e0, e1, e2⟩ := hSw); go_simp; (try with_reducible rfl)
        (try simp only [Act.put, List.setIfInBounds_toArray, List.set_cons_zero, List.set_cons_succ])
        refine wpAnyH_take (i := 8) (v := ?_) (by simp only [List.getElem?_toArray, List.getElem?_cons_succ, List.getElem?_cons_zero]; rfl) (by kernel_rfl) (by kernel_rfl) (by kernel_rfl) (by exact fun _ _ _ h => h) (Or.inl ⟨by rfl, ?_⟩) (by assumption) ?_
        rotate_left 1
        · intro w hSw; (obtain ⟨e0, e1, e2⟩ := hSw); go_simp; (try with_reducible rfl)
        (try simp only [Act.put, List.setIfInBounds_toArray, List.set_cons_zero, List.set_cons_succ])
        refine wpAnyH_take (i := 9) (v := ?_) (by simp only [List.getElem?_toArray, List.getElem?_cons_succ, List.getElem?_cons_zero]; rfl) (by kernel_rfl) (by kernel_rfl) (by kernel_rfl) (by exact fun _ _ _ h => h) (Or.inl ⟨by rfl, ?_⟩) (by assumption) ?_
        rotate_left 1
        · intro w hSw; (obtain ⟨e0, e1, e2⟩ := hSw); go_simp; (try with_reducible rfl)
        (try simp only [Act.put, List.setIfInBounds_toArray, List.set_cons_zero, List.set_cons_succ])
        refine wpAnyH_take (i := 10) (v := ?_) (by simp only [List.getElem?_toArray, List.getElem?_cons_succ, List.getElem?_cons_zero]; rfl) (by kernel_rfl) (by kernel_rfl) (by kernel_rfl) (by exact fun _ _ _ h => h) (Or.inl ⟨by rfl, ?_⟩) (by assumption) ?_
        rotate_left 1
        · intro w hSw; (obtain ⟨e0, e1, e2⟩ := hSw); go_simp; (try with_reducible rfl)
        (try simp only [Act.put, List.setIfInBounds_toArray, List.set_cons_zero, List.set_cons_succ])
        refine wpAnyH_take (i := 11) (v := ?_) (by simp only [List.getElem?_toArray, List.getElem?_cons_succ, List.getElem?_cons_zero]; rfl) (by kernel_rfl) (by kernel_rfl) (by kernel_rfl) (by exact fun _ _ _ h => h) (Or.inl ⟨by rfl, ?_⟩) (by assumption) ?_
        rotate_left 1
        · intro w hSw; (obtain ⟨e0, e1, e2⟩ := hSw); go_simp; (try with_reducible rfl)
        (try simp only [Act.put, List.setIfInBounds_toArray, List.set_cons_zero, List.set_cons_succ])
        refine wpAnyH_take (i := 12) (v := ?_) (by simp only [List.getElem?_toArray, List.getElem?_cons_succ, List.getElem?_cons_zero]; rfl) (by kernel_rfl) (by kernel_rfl) (by kernel_rfl) (by exact fun _ _ _ h => h) (Or.inl ⟨by rfl, ?_⟩) (by assumption) ?_
        rotate_left 1
        · intro w hSw; (obtain ⟨e0, e1, e2⟩ := hSw); go_simp; (try with_reducible rfl)
        (try simp only [Act.put, List.setIfInBounds_toArray, List.set_cons_zero, List.set_cons_succ])
        refine wpAnyH_take (i := 13) (v := ?_) (by simp only [List.getElem?_toArray, List.getElem?_cons_succ, List.getElem?_cons_zero]; rfl) (by kernel_rfl) (by kernel_rfl) (by kernel_rfl) (by exact fun _ _ _ h => h) (Or.inl ⟨by rfl, ?_⟩) (by assumption) ?_
        rotate_left 1
        · intro w hSw; (obtain ⟨e0, e1, e2⟩ := hSw); go_simp; (try with_reducible rfl)
        (try simp only [Act.put, List.setIfInBounds_toArray, List.set_cons_zero, List.set_cons_succ])
        refine wpAnyH_take (i := 14) (v := ?_) (by simp only [List.getElem?_toArray, List.getElem?_cons_succ, List.getElem?_cons_zero]; rfl) (by kernel_rfl) (by kernel_rfl) (by kernel_rfl) (by exact fun _ _ _ h => h) (Or.inl ⟨by rfl, ?_⟩) (by assumption) ?_
        rotate_left 1
        · intro w hSw; (obtain ⟨e0, e1, e2⟩ := hSw); go_simp; (try with_reducible rfl)
        (try simp only [Act.put, List.setIfInBounds_toArray, List.set_cons_zero, List.set_cons_succ])
        refine wpAnyH_take (i := 15) (v := ?_) (by simp only [List.getElem?_toArray, List.getElem?_cons_succ, List.getElem?_cons_zero]; rfl) (by kernel_rfl) (by kernel_rfl) (by kernel_rfl) (by exact fun _ _ _ h => h) (Or.inl ⟨by rfl, ?_⟩) (by assumption) ?_
        rotate_left 1
        · intro w hSw; (obtain ⟨e0, e1, e2⟩ := hSw); go_simp; (try with_reducible rfl)
        (try simp only [Act.put, List.setIfInBounds_toArray, List.set_cons_zero, List.set_cons_succ])
        refine wpAnyH_take (i := 16) (v := ?_) (by simp only [List.getElem?_toArray, List.getElem?_cons_succ, List.getElem?_cons_zero]; rfl) (by kernel_rfl) (by kernel_rfl) (by kernel_rfl) (by exact fun _ _ _ h => h) (Or.inl ⟨by rfl, ?_⟩) (by assumption) ?_
        rotate_left 1
        · intro w hSw; (obtain ⟨e0, e1, e2⟩ := hSw); go_simp; (try with_reducible rfl)
        (try simp only [Act.put, List.setIfInBounds_toArray, List.set_cons_zero, List.set_cons_succ])
        refine wpAnyH_take (i := 17) (v := ?_) (by simp only [List.getElem?_toArray, List.getElem?_cons_succ, List.getElem?_cons_zero]; rfl) (by kernel_rfl) (by kernel_rfl) (by kernel_rfl) (by exact fun _ _ _ h => h) (Or.inl ⟨by rfl, ?_⟩) (by assumption) ?_
        rotate_left 1
        · intro w hSw; (obtain ⟨e0, e1, e2⟩ := hSw); go_simp; (try with_reducible rfl)
        (try simp only [Act.put, List.setIfInBounds_toArray, List.set_cons_zero, List.set_cons_succ])
        refine wpAnyH_take (i := 18) (v := ?_) (by simp only [List.getElem?_toArray, List.getElem?_cons_succ, List.getElem?_cons_zero]; rfl) (by kernel_rfl) (by kernel_rfl) (by kernel_rfl) (by exact fun _ _ _ h => h) (Or.inl ⟨by rfl, ?_⟩) (by assumption) ?_
        rotate_left 1
        · intro w hSw; (obtain ⟨e0, e1, e2⟩ := hSw); go_simp; (try with_reducible rfl)
        (try simp only [Act.put, List.setIfInBounds_toArray, List.set_cons_zero, List.set_cons_succ])
        refine wpAnyH_take (i := 19) (v := ?_) (by simp only [List.getElem?_toArray, List.getElem?_cons_succ, List.getElem?_cons_zero]; rfl) (by kernel_rfl) (by kernel_rfl) (by kernel_rfl) (by exact fun _ _ _ h => h) (Or.inl ⟨by rfl, ?_⟩) (by assumption) ?_
        rotate_left 1
        · intro w hSw; (obtain ⟨e0, e1, e2⟩ := hSw); go_simp; (try with_reducible rfl)
        (try simp only [Act.put, List.setIfInBounds_toArray, List.set_cons_zero, List.set_cons_succ])
        refine wpAnyH_done (by kernel_rfl) ?_ _
        clear hHeld
        have hsp9 := HSP7.out.tail
        by_cases hc1 : cap7 = 1
        · obtain rfl : tl = [] := List.eq_nil_of_length_eq_zero (by omega)
          have hyn := True.intro
          have hsp8 : SpAt W7 W7.heap.size (some ⟨xb, xo, none⟩) [] := ⟨by simp, fun h => by simp at h⟩
          have HX8 := Lib.hid ((HX7.out.set (b' := { ring := fillsB b.ring off s.data.toList gs, rd := b.rd, nx := y2, bl := (b.nx, y2) :: [], nw := lo }) 2 (.int .i64 y2) rfl rfl (fun _ _ => rfl)).setBl (some ⟨xb, xo, none⟩) 0 [] (by have := SpAt.chg hsp8 ((Chg.refl B W7).setCell 2 (.int .i64 y2)) (Nat.le_refl _) (fun _ ad e => by cases e; exact hxne.1); simpa [World.setCell] using this) (by first | omega | simp) ⟨fun ad e => by cases e; rfl, fun _ ad e => by cases e; exact hxne⟩)
          have HC8 := Lib.hid (HC7.out.trans (Chg2.of1 (R := R) (((Chg.refl B W7).setCell 2 (.int .i64 y2)).setCell 3 (.slice (some ⟨xb, xo, none⟩) 0 0))))
          have HV8 := Lib.hid (SpAt.chg HV7.out (((Chg.refl B W7).setCell 2 (.int .i64 y2)).setCell 3 (.slice (some ⟨xb, xo, none⟩) 0 0)) (by omega) (fun hp ad e => (HVA.out.2 hp ad e).1))
          have hs8 : W2.heap.size ≤ ((W7.setCell ⟨B, 2, none⟩ (.int .i64 y2)).setCell ⟨B, 3, none⟩ (.slice (some ⟨xb, xo, none⟩) 0 0)).drew.heap.size := by simp [World.setCell]; omega
          clear hsp8
          clear hsp9
          go_wp2_with fail
          refine (count_any _ W2.heap.size va vc gs (HV8.out.below (Below.refl _ _).drew) hs8).mono ?_
          rintro e W9 ⟨rfl, hb9⟩
          have HB9 := Lib.hid ((Below.refl _ _).drew.trans hb9)
          clear hb9
          go_wp2_with fail
          refine bodyPost_ret (results_tmp2 rfl _ _ _) rfl ⟨?_, ?_, HC8.out.trans (Chg2.of_below HB9.out)⟩
          · rw [HGS.out]; rfl
          · have := HX8.out.below HB9.out
            unfold Bx.putP
            rw [HGS.out, HAL.out]
            simpa [joinNx, joinBl, hyn] using this
        · have hyn := True.intro
          have hsp8 : SpAt W7 W7.heap.size (some ⟨xb, xo + 2, none⟩) tl := hsp9
          have HX8 := Lib.hid ((HX7.out.set (b' := { ring := fillsB b.ring off s.data.toList gs, rd := b.rd, nx := y2, bl := (b.nx, y2) :: tl, nw := lo }) 2 (.int .i64 y2) rfl rfl (fun _ _ => rfl)).setBl (some ⟨xb, xo + 2, none⟩) (cap7 - 1) tl (by have := SpAt.chg hsp8 ((Chg.refl B W7).setCell 2 (.int .i64 y2)) (Nat.le_refl _) (fun _ ad e => by cases e; exact hxne.1); simpa [World.setCell] using this) (by first | omega | simp) ⟨fun ad e => by cases e; rfl, fun _ ad e => by cases e; exact hxne⟩)
          have HC8 := Lib.hid (HC7.out.trans (Chg2.of1 (R := R) (((Chg.refl B W7).setCell 2 (.int .i64 y2)).setCell 3 (.slice (some ⟨xb, xo + 2, none⟩) tl.length (cap7 - 1)))))
          have HV8 := Lib.hid (SpAt.chg HV7.out (((Chg.refl B W7).setCell 2 (.int .i64 y2)).setCell 3 (.slice (some ⟨xb, xo + 2, none⟩) tl.length (cap7 - 1))) (by omega) (fun hp ad e => (HVA.out.2 hp ad e).1))
          have hs8 : W2.heap.size ≤ ((W7.setCell ⟨B, 2, none⟩ (.int .i64 y2)).setCell ⟨B, 3, none⟩ (.slice (some ⟨xb, xo + 2, none⟩) tl.length (cap7 - 1))).drew.heap.size := by simp [World.setCell]; omega
          clear hsp8
          clear hsp9
          go_wp2_with fail
          refine (count_any _ W2.heap.size va vc gs (HV8.out.below (Below.refl _ _).drew) hs8).mono ?_
          rintro e W9 ⟨rfl, hb9⟩
          have HB9 := Lib.hid ((Below.refl _ _).drew.trans hb9)
          clear hb9
          go_wp2_with fail
          refine bodyPost_ret (results_tmp2 rfl _ _ _) rfl ⟨?_, ?_, HC8.out.trans (Chg2.of_below HB9.out)⟩
          · rw [HGS.out]; rfl
          · have := HX8.out.below HB9.out
            unfold Bx.putP
            rw [HGS.out, HAL.out]
            simpa [joinNx, joinBl, hyn] using this
      · go_wp2_with fail
        refine wp_region_held_drew (S := (fun w' : World => w'.cell? ⟨B, 2, none⟩ = some (.int .i64 b.nx) ∧ w'.cell? ⟨B, 3, none⟩ = some (.slice (some ⟨xb, xo, none⟩) (tl.length + 1) cap7) ∧ w'.cell? ⟨xb, xo, none⟩ = some (.int .i64 y1))) (by kernel_rfl) (⟨n2a, n3a, x0⟩) (fun hHeld => ?_)
        refine wpAnyH_take (i := 0) (v := ?_) (by simp only [List.getElem?_toArray, List.getElem?_cons_zero]; rfl) (by kernel_rfl) (by kernel_rfl) (by kernel_rfl) (by exact fun _ _ _ h => h) (Or.inl ⟨by rfl, ?_⟩) (by assumption) ?_
        rotate_left 1
        · intro w hSw; (obtain ⟨e0, e1, e2⟩ := hSw); go_simp; (try with_reducible rfl)
        (try simp only [Act.put, List.setIfInBounds_toArray, List.set_cons_zero, List.set_cons_succ])
        refine wpAnyH_take (i := 1) (v := ?_) (by simp only [List.getElem?_toArray, List.getElem?_cons_succ, List.getElem?_cons_zero]; rfl) (by kernel_rfl) (by kernel_rfl) (by kernel_rfl) (by exact fun _ _ _ h => h) (Or.inl ⟨by rfl, ?_⟩) (by assumption) ?_
        rotate_left 1
        · intro w hSw; (obtain ⟨e0, e1, e2⟩ := hSw); go_simp; (try with_reducible rfl)
        (try simp only [Act.put, List.setIfInBounds_toArray, List.set_cons_zero, List.set_cons_succ])
        refine wpAnyH_take (i := 2) (v := ?_) (by simp only [List.getElem?_toArray, List.getElem?_cons_succ, List.getElem?_cons_zero]; rfl) (by kernel_rfl) (by kernel_rfl) (by kernel_rfl) (by exact fun _ _ _ h => h) (Or.inl ⟨by rfl, ?_⟩) (by assumption) ?_
        rotate_left 1
        · intro w hSw; (obtain ⟨e0, e1, e2⟩ := hSw); go_simp; (try with_reducible rfl)
        (try simp only [Act.put, List.setIfInBounds_toArray, List.set_cons_zero, List.set_cons_succ])
        refine wpAnyH_take (i := 3) (v := ?_) (by simp only [List.getElem?_toArray, List.getElem?_cons_succ, List.getElem?_cons_zero]; rfl) (by kernel_rfl) (by kernel_rfl) (by kernel_rfl) (by exact fun _ _ _ h => h) (Or.inl ⟨by rfl, ?_⟩) (by assumption) ?_
        rotate_left 1
        · intro w hSw; (obtain ⟨e0, e1, e2⟩ := hSw); go_simp; (try with_reducible rfl)
        (try simp only [Act.put, List.setIfInBounds_toArray, List.set_cons_zero, List.set_cons_succ])
        refine wpAnyH_take (i := 4) (v := ?_) (by simp only [List.getElem?_toArray, List.getElem?_cons_succ, List.getElem?_cons_zero]; rfl) (by kernel_rfl) (by kernel_rfl) (by kernel_rfl) (by exact fun _ _ _ h => h) (Or.inl ⟨by rfl, ?_⟩) (by assumption) ?_
        rotate_left 1
        · intro w hSw; (obtain ⟨e0, e1, e2⟩ := hSw); go_simp; (try with_reducible rfl)
        (try simp only [Act.put, List.setIfInBounds_toArray, List.set_cons_zero, List.set_cons_succ])
        refine wpAnyH_take (i := 5) (v := ?_) (by simp only [List.getElem?_toArray, List.getElem?_cons_succ, List.getElem?_cons_zero]; rfl) (by kernel_rfl) (by kernel_rfl) (by kernel_rfl) (by exact fun _ _ _ h => h) (Or.inl ⟨by rfl, ?_⟩) (by assumption) ?_
        rotate_left 1
        · intro w hSw; (obtain ⟨e0, e1, e2⟩ := hSw); go_simp; (try with_reducible rfl)
        (try simp only [Act.put, List.setIfInBounds_toArray, List.set_cons_zero, List.set_cons_succ])
        refine wpAnyH_take (i := 6) (v := ?_) (by simp only [List.getElem?_toArray, List.getElem?_cons_succ, List.getElem?_cons_zero]; rfl) (by kernel_rfl) (by kernel_rfl) (by kernel_rfl) (by exact fun _ _ _ h => h) (Or.inl ⟨by rfl, ?_⟩) (by assumption) ?_
        rotate_left 1
        · intro w hSw; (obtain ⟨e0, e1, e2⟩ := hSw); go_simp; (try with_reducible rfl)
        (try simp only [Act.put, List.setIfInBounds_toArray, List.set_cons_zero, List.set_cons_succ])
        refine wpAnyH_take (i := 7) (v := ?_) (by simp only [List.getElem?_toArray, List.getElem?_cons_succ, List.getElem?_cons_zero]; rfl) (by kernel_rfl) (by kernel_rfl) (by kernel_rfl) (by exact fun _ _ _ h => h) (Or.inl ⟨by rfl, ?_⟩) (by assumption) ?_
        rotate_left 1
        · intro w hSw; (obtain ⟨e0, e1, e2⟩ := hSw); go_simp; (try with_reducible rfl)
        (try simp only [Act.put, List.setIfInBounds_toArray, List.set_cons_zero, List.set_cons_succ])
        refine wpAnyH_take (i := 8) (v := ?_) (by simp only [List.getElem?_toArray, List.getElem?_cons_succ, List.getElem?_cons_zero]; rfl) (by kernel_rfl) (by kernel_rfl) (by kernel_rfl) (by exact fun _ _ _ h => h) (Or.inl ⟨by rfl, ?_⟩) (by assumption) ?_
        rotate_left 1
        · intro w hSw; (obtain ⟨e0, e1, e2⟩ := hSw); go_simp; (try with_reducible rfl)
        (try simp only [Act.put, List.setIfInBounds_toArray, List.set_cons_zero, List.set_cons_succ])
        refine wpAnyH_take (i := 9) (v := ?_) (by simp only [List.getElem?_toArray, List.getElem?_cons_succ, List.getElem?_cons_zero]; rfl) (by kernel_rfl) (by kernel_rfl) (by kernel_rfl) (by exact fun _ _ _ h => h) (Or.inl ⟨by rfl, ?_⟩) (by assumption) ?_
        rotate_left 1
        · intro w hSw; (obtain ⟨e0, e1, e2⟩ := hSw); go_simp; (try with_reducible rfl)
        (try simp only [Act.put, List.setIfInBounds_toArray, List.set_cons_zero, List.set_cons_succ])
        refine wpAnyH_take (i := 10) (v := ?_) (by simp only [List.getElem?_toArray, List.getElem?_cons_succ, List.getElem?_cons_zero]; rfl) (by kernel_rfl) (by kernel_rfl) (by kernel_rfl) (by exact fun _ _ _ h => h) (Or.inl ⟨by rfl, ?_⟩) (by assumption) ?_
        rotate_left 1
        · intro w hSw; (obtain ⟨e0, e1, e2⟩ := hSw); go_simp; (try with_reducible rfl)
        (try simp only [Act.put, List.setIfInBounds_toArray, List.set_cons_zero, List.set_cons_succ])
        refine wpAnyH_take (i := 11) (v := ?_) (by simp only [List.getElem?_toArray, List.getElem?_cons_succ, List.getElem?_cons_zero]; rfl) (by kernel_rfl) (by kernel_rfl) (by kernel_rfl) (by exact fun _ _ _ h => h) (Or.inl ⟨by rfl, ?_⟩) (by assumption) ?_
        rotate_left 1
        · intro w hSw; (obtain ⟨e0, e1, e2⟩ := hSw); go_simp; (try with_reducible rfl)
        (try simp only [Act.put, List.setIfInBounds_toArray, List.set_cons_zero, List.set_cons_succ])
        refine wpAnyH_take (i := 12) (v := ?_) (by simp only [List.getElem?_toArray, List.getElem?_cons_succ, List.getElem?_cons_zero]; rfl) (by kernel_rfl) (by kernel_rfl) (by kernel_rfl) (by exact fun _ _ _ h => h) (Or.inl ⟨by rfl, ?_⟩) (by assumption) ?_
        rotate_left 1
        · intro w hSw; (obtain ⟨e0, e1, e2⟩ := hSw); go_simp; (try with_reducible rfl)
        (try simp only [Act.put, List.setIfInBounds_toArray, List.set_cons_zero, List.set_cons_succ])
        refine wpAnyH_take (i := 13) (v := ?_) (by simp only [List.getElem?_toArray, List.getElem?_cons_succ, List.getElem?_cons_zero]; rfl) (by kernel_rfl) (by kernel_rfl) (by kernel_rfl) (by exact fun _ _ _ h => h) (Or.inl ⟨by rfl, ?_⟩) (by assumption) ?_
        rotate_left 1
        · intro w hSw; (obtain ⟨e0, e1, e2⟩ := hSw); go_simp; (try with_reducible rfl)
        (try simp only [Act.put, List.setIfInBounds_toArray, List.set_cons_zero, List.set_cons_succ])
        refine wpAnyH_take (i := 14) (v := ?_) (by simp only [List.getElem?_toArray, List.getElem?_cons_succ, List.getElem?_cons_zero]; rfl) (by kernel_rfl) (by kernel_rfl) (by kernel_rfl) (by exact fun _ _ _ h => h) (Or.inl ⟨by rfl, ?_⟩) (by assumption) ?_
        rotate_left 1
        · intro w hSw; (obtain ⟨e0, e1, e2⟩ := hSw); go_simp; (try with_reducible rfl)
        (try simp only [Act.put, List.setIfInBounds_toArray, List.set_cons_zero, List.set_cons_succ])
        refine wpAnyH_take (i := 15) (v := ?_) (by simp only [List.getElem?_toArray, List.getElem?_cons_succ, List.getElem?_cons_zero]; rfl) (by kernel_rfl) (by kernel_rfl) (by kernel_rfl) (by exact fun _ _ _ h => h) (Or.inl ⟨by rfl, ?_⟩) (by assumption) ?_
        rotate_left 1
        · intro w hSw; (obtain ⟨e0, e1, e2⟩ := hSw); go_simp; (try with_reducible rfl)
        (try simp only [Act.put, List.setIfInBounds_toArray, List.set_cons_zero, List.set_cons_succ])
        refine wpAnyH_take (i := 16) (v := ?_) (by simp only [List.getElem?_toArray, List.getElem?_cons_succ, List.getElem?_cons_zero]; rfl) (by kernel_rfl) (by kernel_rfl) (by kernel_rfl) (by exact fun _ _ _ h => h) (Or.inl ⟨by rfl, ?_⟩) (by assumption) ?_
        rotate_left 1
        · intro w hSw; (obtain ⟨e0, e1, e2⟩ := hSw); go_simp; (try with_reducible rfl)
        (try simp only [Act.put, List.setIfInBounds_toArray, List.set_cons_zero, List.set_cons_succ])
        refine wpAnyH_take (i := 17) (v := ?_) (by simp only [List.getElem?_toArray, List.getElem?_cons_succ, List.getElem?_cons_zero]; rfl) (by kernel_rfl) (by kernel_rfl) (by kernel_rfl) (by exact fun _ _ _ h => h) (Or.inl ⟨by rfl, ?_⟩) (by assumption) ?_
        rotate_left 1
        · intro w hSw; (obtain ⟨e0, e1, e2⟩ := hSw); go_simp; (try with_reducible rfl)
        (try simp only [Act.put, List.setIfInBounds_toArray, List.set_cons_zero, List.set_cons_succ])
        refine wpAnyH_take (i := 18) (v := ?_) (by simp only [List.getElem?_toArray, List.getElem?_cons_succ, List.getElem?_cons_zero]; rfl) (by kernel_rfl) (by kernel_rfl) (by kernel_rfl) (by exact fun _ _ _ h => h) (Or.inl ⟨by rfl, ?_⟩) (by assumption) ?_
        rotate_left 1
        · intro w hSw; (obtain ⟨e0, e1, e2⟩ := hSw); go_simp; (try with_reducible rfl)
        (try simp only [Act.put, List.setIfInBounds_toArray, List.set_cons_zero, List.set_cons_succ])
        refine wpAnyH_take (i := 19) (v := ?_) (by simp only [List.getElem?_toArray, List.getElem?_cons_succ, List.getElem?_cons_zero]; rfl) (by kernel_rfl) (by kernel_rfl) (by kernel_rfl) (by exact fun _ _ _ h => h) (Or.inl ⟨by rfl, ?_⟩) (by assumption) ?_
        rotate_left 1
        · intro w hSw; (obtain ⟨e0, e1, e2⟩ := hSw); go_simp; (try with_reducible rfl)
        (try simp only [Act.put, List.setIfInBounds_toArray, List.set_cons_zero, List.set_cons_succ])
        refine wpAnyH_done (by kernel_rfl) ?_ _
        clear hHeld
        have HX8 := HX7
        have HC8 := HC7
        have HV8 := HV7
        have hs8 : W2.heap.size ≤ W7.drew.heap.size := by show W2.heap.size ≤ W7.heap.size; omega
        go_wp2_with fail
        refine (count_any _ W2.heap.size va vc gs (HV8.out.below (Below.refl _ _).drew) hs8).mono ?_
        rintro e W9 ⟨rfl, hb9⟩
        have HB9 := Lib.hid ((Below.refl _ _).drew.trans hb9)
        clear hb9
        go_wp2_with fail
        refine bodyPost_ret (results_tmp2 rfl _ _ _) rfl ⟨?_, ?_, HC8.out.trans (Chg2.of_below HB9.out)⟩
        · rw [HGS.out]; rfl
        · have := HX8.out.below HB9.out
          unfold Bx.putP
          rw [HGS.out, HAL.out]
          simpa [joinNx, joinBl, hyn] using this
end Go.Proofs.Ytfeppkgcimgkeaa
