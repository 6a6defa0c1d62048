/- recvbuf: Take. -/
import Derived.Test.YtfeppkgcimgkeaaRbNew
import Derived.Laws.CopyOwn
namespace Go.Proofs.Ytfeppkgcimgkeaa
open Go.RowKit Go.Shelf
theorem ring_cell {W : World} {g : Nat} {rg : List UInt8} (h : RingAt g rg W) (j : Nat) (hj : j < rg.length) : W.cell? ⟨g, j, none⟩ = some (.int .u8 (rg[j].toNat : Int)) := by
  rw [cell_of_row _ _ _ _ _ _ h]
  simp [Lib.byteCells, hj]
theorem ring_conv {W : World} {g : Nat} {rg : List UInt8} (h : RingAt g rg W) (n cap : Nat) (hn : rg.length = n) : (convert 22 9 (.slice (some ⟨g, 0, none⟩) n cap)).run Try.prog W = .ok (.string ⟨rg.toArray⟩) W := by
  subst hn
  refine run_convert_bytes_back _ _ _ 5 _ _ rg Try.underlying22 Try.underlying5 Try.underlying9 fun j hj => ?_
  rw [Addr.add_lit, Nat.zero_add]
  exact ring_cell h j hj
theorem splice_bytes (z : List UInt8) (o : Nat) (cs : List UInt8) : splice (Lib.byteCells z) o (Lib.byteCells cs) = Lib.byteCells (splB z o cs) := by
  rw [byteCells_splB, splice, Lib.byteCells_length, List.append_assoc]
theorem ring_src {W : World} {g : Nat} {rg : List UInt8} (h : RingAt g rg W) (o m : Nat) : ∀ j v, (Lib.byteCells ((rg.drop o).take m))[j]? = some v → W.cell? ((⟨g, o, none⟩ : Addr).add j) = some v := by
  intro j v hv
  rw [Addr.add_lit]
  have hj : j < ((rg.drop o).take m).length := by
    rcases Nat.lt_or_ge j ((rg.drop o).take m).length with h1 | h1
    · exact h1
    · rw [List.getElem?_eq_none (by rw [Lib.byteCells_length]; exact h1)] at hv; cases hv
  rw [List.length_take, List.length_drop] at hj
  rw [ring_cell h (o + j) (by omega)]
  rw [← hv]
  simp only [Lib.byteCells, List.getElem?_map]
  rw [List.getElem?_take_of_lt (by omega), List.getElem?_drop, List.getElem?_eq_getElem (by omega)]
  rfl
/-- The two copies of Take. -/
theorem read_two (rg : List UInt8) (o q m : Nat) (ho : o < rg.length) (hq : q ≤ rg.length) (hm : m = min (rg.length - o) q) :
    splB (splB (List.replicate q 0) 0 ((rg.drop o).take m)) m (rg.take (q - m)) = (rg.drop o).take q ++ rg.take (q - (rg.length - o)) := by
  have l1 : ((rg.drop o).take m).length = m := by rw [List.length_take, List.length_drop]; omega
  have l2 : (rg.take (q - m)).length = q - m := by rw [List.length_take]; omega
  have e1 : splB (List.replicate q 0) 0 ((rg.drop o).take m) = (rg.drop o).take m ++ List.replicate (q - m) 0 := by
    unfold splB
    rw [l1, List.take_zero, List.nil_append, Nat.zero_add, List.drop_replicate]
  have hd : ((rg.drop o).take m ++ List.replicate (q - m) 0).drop (m + (q - m)) = [] := List.drop_eq_nil_of_le (by rw [List.length_append, l1, List.length_replicate]; omega)
  rw [e1]
  unfold splB
  rw [List.take_left' l1, l2, hd, List.append_nil, show q - (rg.length - o) = q - m by omega]
  congr 1
  by_cases h : q ≤ rg.length - o
  · rw [show m = q by omega]
  · rw [show m = rg.length - o by omega, List.take_of_length_le (by rw [List.length_drop]; omega), List.take_of_length_le (by rw [List.length_drop]; omega)]
set_option maxRecDepth 100000 in
set_option maxHeartbeats 4000000 in
theorem take_any (B R lb : Nat) (b : Bx) (k : Int) (w : World) (h : BoxAt B R lb b w) (ok : b.Ok) :
    Calls Try.prog 21 #[.pointer (some ⟨B, 0, none⟩), .int .i64 k] w fun e w' => e = .returned (.string ⟨(b.takeS k).toArray⟩) ∧ BoxAt B R lb (b.take k) w' ∧ Chg B w w' := by
  have HBX := Lib.hid h
  have HOK := Lib.hid ok
  have k1 := ok.rd0
  have k2 := ok.small
  have k3 := ok.most
  have k4 := ok.one
  have k5 := ok.rdnx
  have k6 := ok.nxend
  clear h ok
  by_cases hz : min k (b.nx - b.rd) ≤ 0
  · have HR := Lib.hid (show b.takeS k = [] ∧ b.take k = b from ⟨by unfold Bx.takeS; rw [if_pos hz], by unfold Bx.take; rw [if_pos hz]⟩)
    rw [HR.out.1, HR.out.2]
    by_cases hk : b.nx - b.rd < k
    all_goals
      go_enter Try.func21, Try.ntmps21
      go_wp2_with fail
      refine (len_any B R lb b _ HBX.out HOK.out).mono ?_
      rintro e w1 ⟨rfl, rfl⟩
      have hle : k ≤ 0 ∨ b.nx - b.rd ≤ 0 := by omega
      (first | (have h1 : b.nx - b.rd ≤ 0 := by omega) | (have h1 : k ≤ 0 := by omega))
      clear hz hle
      go_wp2_with fail
      go_ret
      exact ⟨rfl, HBX.out.drew, (Chg.refl _ _).drew⟩
  · obtain ⟨q, hq⟩ := Int.eq_ofNat_of_zero_le (show 0 ≤ min k (b.nx - b.rd) by omega)
    have HR := Lib.hid (show b.takeS k = readB b.ring b.rd.toNat q ∧ b.take k = { b with rd := b.rd + q } from ⟨by unfold Bx.takeS; rw [if_neg hz, hq]; try rfl, by unfold Bx.take; rw [if_neg hz, hq]; try rfl⟩)
    rw [HR.out.1, HR.out.2]
    obtain ⟨r, hr⟩ := Int.eq_ofNat_of_zero_le k1
    have hrq : b.rd = (r : Int) := hr
    have hq1 : 1 ≤ q := by omega
    have hq2 : q ≤ b.ring.length := by omega
    obtain ⟨n, hn⟩ : ∃ n, n = b.ring.length := ⟨_, rfl⟩
    have hmod : (r : Int).tmod (n : Int) = ((r % n : Nat) : Int) := by rw [Int.tmod_eq_emod_of_nonneg (by omega)]; rfl
    obtain ⟨o, ho⟩ : ∃ o, o = r % n := ⟨_, rfl⟩
    have hon : o < n := by rw [ho]; exact Nat.mod_lt _ (by omega)
    rw [← ho] at hmod
    have HRO := Lib.hid (show b.rd.toNat % b.ring.length = o by rw [ho, hrq, hn]; try rfl)
    obtain ⟨i0, hi, hz0, hz1, hz2⟩ := info_parts byteInfo
    have HH : Hid (∀ v : Int, v = (q : Int) → True) := fun _ _ => trivial
    clear HH
    by_cases hk : b.nx - b.rd < k
    all_goals
      (first | (have hv : b.nx - (r : Int) = (q : Int) := by omega) | (have hv : k = (q : Int) := by omega))
      have HN := Lib.hid hn
      rw [← hn] at k2 k3 k4 k6 hq2
      have hno : n ≠ o := by omega
      have hno2 : o ≤ n := by omega
      have hnz : n ≠ 0 := by omega
      have hqp : ¬ ((q : Int) ≤ 0) := by omega
      clear hz hq hr ho hn
      go_enter Try.func21, Try.ntmps21
      go_wp2_with fail
      refine (len_any B R lb b _ HBX.out HOK.out).mono ?_
      rintro e w1 ⟨rfl, rfl⟩
      go_wp2_with (first | (at_make; refine wpList_make_full _ rfl _ _ _ rfl w.heap.size 5 i0 _ 1 Try.underlying22 hi hz0 hz1 _ _ _ _ q rfl rfl rfl rfl (by rw [hz2]; omega) (by unfold maxLen; omega) (Nat.le_refl _) ?_))
      intro w2 hown hgr
      have hlt2 := (World.ownsRow.lt hown w.heap.size rfl).2
      have hrg : RingAt w.heap.size (List.replicate q 0) w2 := by
        refine ring_of_own (base := w.heap.size) (n := q) (cap := q) ?_ rfl
        have e : (madeCells #[Value.int .u8 0] q).toList = Lib.byteCells (List.replicate q 0) := by
          apply List.ext_getElem
          · simp [madeCells, Lib.byteCells]
          · intro i h1 h2
            simp [madeCells, Lib.byteCells, Nat.mod_one]
        rw [← e]
        exact hown
      have hb2 : Below w.heap.size w w2 := (Below.refl _ w).drew.trans (grown_below hgr (Nat.le_refl _) (fun k e => by cases e))
      have hx2 := HBX.out.below hb2
      obtain ⟨a, cap, ⟨c0, -⟩, ⟨c1, f1⟩, -⟩ := hx2.ats
      rw [← HN.out] at c0
      rw [hrq] at c1
      have HRG := Lib.hid hrg
      have HB2 := Lib.hid hb2
      have HX2 := Lib.hid hx2
      have hBl := HBX.out.lt
      clear hown hgr hrg hb2 hx2
      obtain ⟨m, hm⟩ : ∃ m, m = min (n - o) q := ⟨_, rfl⟩
      have hml : m ≤ q := by omega
      have HM := Lib.hid hm
      have HCL := Lib.hid (show (Lib.byteCells ((b.ring.drop o).take m)).length = Nat.min (n - o) q by rw [Lib.byteCells_length, List.length_take, List.length_drop, ← HN.out]; show _ = min _ _; omega)
      have HCL2 := Lib.hid (show (Lib.byteCells (b.ring.take (q - m))).length = Nat.min n (q - m) by rw [Lib.byteCells_length, List.length_take, ← HN.out]; show _ = min _ _; omega)
      have HCM := Lib.hid (show (Lib.byteCells ((b.ring.drop o).take m)).length = m by rw [Lib.byteCells_length, List.length_take, List.length_drop, ← HN.out]; omega)
      clear hm
      go_wp2_with fail
      refine wp_region_held_drew (S := (fun w' : World => w'.cell? ⟨B, 0, none⟩ = some (.slice (some ⟨R, 0, none⟩) n n) ∧ w'.cell? ⟨B, 1, none⟩ = some (.int .i64 (r : Int)))) (by kernel_rfl) (⟨c0, c1⟩) (fun hHeld => ?_)
      refine wpAnyH_take (i := 0) (v := ?_) (by simp only [List.getElem?_toArray, List.getElem?_cons_zero]; rfl) (by kernel_rfl) (by kernel_rfl) (by kernel_rfl) (by exact fun _ _ _ h => h) (Or.inl ⟨by rfl, ?_⟩) (by assumption) ?_
      rotate_left 1
      · intro w hSw; (obtain ⟨y0, y1⟩ := hSw); go_simp; (try with_reducible rfl)
      (try simp only [Act.put, List.setIfInBounds_toArray, List.set_cons_zero, List.set_cons_succ])
      refine wpAnyH_take (i := 1) (v := ?_) (by simp only [List.getElem?_toArray, List.getElem?_cons_succ, List.getElem?_cons_zero]; rfl) (by kernel_rfl) (by kernel_rfl) (by kernel_rfl) (by exact fun _ _ _ h => h) (Or.inl ⟨by rfl, ?_⟩) (by assumption) ?_
      rotate_left 1
      · intro w hSw; (obtain ⟨y0, y1⟩ := hSw); go_simp; (try with_reducible rfl)
      (try simp only [Act.put, List.setIfInBounds_toArray, List.set_cons_zero, List.set_cons_succ])
      refine wpAnyH_take (i := 2) (v := ?_) (by simp only [List.getElem?_toArray, List.getElem?_cons_succ, List.getElem?_cons_zero]; rfl) (by kernel_rfl) (by kernel_rfl) (by kernel_rfl) (by exact fun _ _ _ h => h) (Or.inl ⟨by rfl, ?_⟩) (by assumption) ?_
      rotate_left 1
      · intro w hSw; (obtain ⟨y0, y1⟩ := hSw); go_simp; (try with_reducible rfl)
      (try simp only [Act.put, List.setIfInBounds_toArray, List.set_cons_zero, List.set_cons_succ])
      refine wpAnyH_take (i := 3) (v := ?_) (by simp only [List.getElem?_toArray, List.getElem?_cons_succ, List.getElem?_cons_zero]; rfl) (by kernel_rfl) (by kernel_rfl) (by kernel_rfl) (by exact fun _ _ _ h => h) (Or.inl ⟨by rfl, ?_⟩) (by assumption) ?_
      rotate_left 1
      · intro w hSw; (obtain ⟨y0, y1⟩ := hSw); go_simp; (try with_reducible rfl)
      (try simp only [Act.put, List.setIfInBounds_toArray, List.set_cons_zero, List.set_cons_succ])
      refine wpAnyH_take (i := 4) (v := ?_) (by simp only [List.getElem?_toArray, List.getElem?_cons_succ, List.getElem?_cons_zero]; rfl) (by kernel_rfl) (by kernel_rfl) (by kernel_rfl) (by exact fun _ _ _ h => h) (Or.inl ⟨by rfl, ?_⟩) (by assumption) ?_
      rotate_left 1
      · intro w hSw; (obtain ⟨y0, y1⟩ := hSw); go_simp; (try with_reducible rfl)
      (try simp only [Act.put, List.setIfInBounds_toArray, List.set_cons_zero, List.set_cons_succ])
      refine wpAnyH_take (i := 5) (v := ?_) (by simp only [List.getElem?_toArray, List.getElem?_cons_succ, List.getElem?_cons_zero]; rfl) (by kernel_rfl) (by kernel_rfl) (by kernel_rfl) (by exact fun _ _ _ h => h) (Or.inl ⟨by rfl, ?_⟩) (by assumption) ?_
      rotate_left 1
      · intro w hSw; (obtain ⟨y0, y1⟩ := hSw); go_simp; (try with_reducible rfl)
      (try simp only [Act.put, List.setIfInBounds_toArray, List.set_cons_zero, List.set_cons_succ])
      refine wpAnyH_take (i := 6) (v := ?_) (by simp only [List.getElem?_toArray, List.getElem?_cons_succ, List.getElem?_cons_zero]; rfl) (by kernel_rfl) (by kernel_rfl) (by kernel_rfl) (by exact fun _ _ _ h => h) (Or.inl ⟨by rfl, ?_⟩) (by assumption) ?_
      rotate_left 1
      · intro w hSw; (obtain ⟨y0, y1⟩ := hSw); go_simp; (try with_reducible rfl)
      (try simp only [Act.put, List.setIfInBounds_toArray, List.set_cons_zero, List.set_cons_succ])
      refine wpAnyH_take (i := 7) (v := ?_) (by simp only [List.getElem?_toArray, List.getElem?_cons_succ, List.getElem?_cons_zero]; rfl) (by kernel_rfl) (by kernel_rfl) (by kernel_rfl) (by exact fun _ _ _ h => h) (Or.inl ⟨by rfl, ?_⟩) (by assumption) ?_
      rotate_left 1
      · intro w hSw; (obtain ⟨y0, y1⟩ := hSw); go_simp; (try with_reducible rfl)
      (try simp only [Act.put, List.setIfInBounds_toArray, List.set_cons_zero, List.set_cons_succ])
      refine wpAnyH_take (i := 8) (v := ?_) (by simp only [List.getElem?_toArray, List.getElem?_cons_succ, List.getElem?_cons_zero]; rfl) (by kernel_rfl) (by kernel_rfl) (by kernel_rfl) (by exact fun _ _ _ h => h) (Or.inl ⟨by rfl, ?_⟩) (by assumption) ?_
      rotate_left 1
      · intro w hSw; (obtain ⟨y0, y1⟩ := hSw); go_simp; (try with_reducible rfl)
      (try simp only [Act.put, List.setIfInBounds_toArray, List.set_cons_zero, List.set_cons_succ])
      refine wpAnyH_take (i := 9) (v := ?_) (by simp only [List.getElem?_toArray, List.getElem?_cons_succ, List.getElem?_cons_zero]; rfl) (by kernel_rfl) (by kernel_rfl) (by kernel_rfl) (by exact fun _ _ _ h => h) (Or.inl ⟨by rfl, ?_⟩) (by assumption) ?_
      rotate_left 1
      · intro w hSw; (obtain ⟨y0, y1⟩ := hSw); go_simp; (try with_reducible rfl)
      (try simp only [Act.put, List.setIfInBounds_toArray, List.set_cons_zero, List.set_cons_succ])
      refine wpAnyH_take (i := 10) (v := ?_) (by simp only [List.getElem?_toArray, List.getElem?_cons_succ, List.getElem?_cons_zero]; rfl) (by kernel_rfl) (by kernel_rfl) (by kernel_rfl) (by exact fun _ _ _ h => h) (Or.inl ⟨by rfl, ?_⟩) (by assumption) ?_
      rotate_left 1
      · intro w hSw; (obtain ⟨y0, y1⟩ := hSw); go_simp; (try with_reducible rfl)
      (try simp only [Act.put, List.setIfInBounds_toArray, List.set_cons_zero, List.set_cons_succ])
      refine wpAnyH_take (i := 11) (v := ?_) (by simp only [List.getElem?_toArray, List.getElem?_cons_succ, List.getElem?_cons_zero]; rfl) (by kernel_rfl) (by kernel_rfl) (by kernel_rfl) (by exact fun _ _ _ h => h) (Or.inl ⟨by rfl, ?_⟩) (by assumption) ?_
      rotate_left 1
      · intro w hSw; (obtain ⟨y0, y1⟩ := hSw); go_simp; (try with_reducible rfl)
      (try simp only [Act.put, List.setIfInBounds_toArray, List.set_cons_zero, List.set_cons_succ])
      refine wpAnyH_take (i := 12) (v := ?_) (by simp only [List.getElem?_toArray, List.getElem?_cons_succ, List.getElem?_cons_zero]; rfl) (by kernel_rfl) (by kernel_rfl) (by kernel_rfl) (by exact fun _ _ _ h => h) (Or.inl ⟨by rfl, ?_⟩) (by assumption) ?_
      rotate_left 1
      · intro w hSw; (obtain ⟨y0, y1⟩ := hSw); go_simp; (try with_reducible rfl)
      (try simp only [Act.put, List.setIfInBounds_toArray, List.set_cons_zero, List.set_cons_succ])
      refine wpAnyH_take (i := 13) (v := ?_) (by simp only [List.getElem?_toArray, List.getElem?_cons_succ, List.getElem?_cons_zero]; rfl) (by kernel_rfl) (by kernel_rfl) (by kernel_rfl) (by exact fun _ _ _ h => h) (Or.inl ⟨by rfl, ?_⟩) (by assumption) ?_
      rotate_left 1
      · intro w hSw; (obtain ⟨y0, y1⟩ := hSw); go_simp; (try with_reducible rfl)
      (try simp only [Act.put, List.setIfInBounds_toArray, List.set_cons_zero, List.set_cons_succ])
      refine wpAnyH_take (i := 14) (v := ?_) (by simp only [List.getElem?_toArray, List.getElem?_cons_succ, List.getElem?_cons_zero]; rfl) (by kernel_rfl) (by kernel_rfl) (by kernel_rfl) (by exact fun _ _ _ h => h) (Or.inl ⟨by rfl, ?_⟩) (by assumption) ?_
      rotate_left 1
      · intro w hSw; (obtain ⟨y0, y1⟩ := hSw); go_simp; (try with_reducible rfl)
      (try simp only [Act.put, List.setIfInBounds_toArray, List.set_cons_zero, List.set_cons_succ])
      refine wpAnyH_take (i := 15) (v := ?_) (by simp only [List.getElem?_toArray, List.getElem?_cons_succ, List.getElem?_cons_zero]; rfl) (by kernel_rfl) (by kernel_rfl) (by kernel_rfl) (by exact fun _ _ _ h => h) (Or.inl ⟨by rfl, ?_⟩) (by assumption) ?_
      rotate_left 1
      · intro w hSw; (obtain ⟨y0, y1⟩ := hSw); go_simp; (try with_reducible rfl)
      (try simp only [Act.put, List.setIfInBounds_toArray, List.set_cons_zero, List.set_cons_succ])
      refine wpAnyH_ready (rs := [16]) (by kernel_rfl) (by simp) ?_
      refine AllReadyH.cons (by simp only [List.getElem?_toArray, List.getElem?_cons_succ, List.getElem?_cons_zero]; rfl) (fun Kq hKq => ?_) AllReadyH.nil
      refine step_copy_splice rfl _ _ _ _ rfl 5 Try.underlying22 (by kernel_rfl) (some ⟨w.heap.size, 0, none⟩) (some ⟨R, o, none⟩) q q (n - o) (n - o) rfl rfl w.heap.size 0 (Lib.byteCells (List.replicate q 0)) 5 HRG.out (Lib.byteCells ((b.ring.drop o).take m)) HCL.out (fun _ => ⟨rfl, _, rfl, ring_src HX2.out.2.1 o m⟩) (by rw [Lib.byteCells_length, Lib.byteCells_length, List.length_take, List.length_replicate]; omega) (Lib.byteCells_one _) w.heap.size w HB2.out.drew (Nat.le_refl _) ?_
      intro w3 hr3 hb3
      rw [HCM.out]
      have hx3 := HBX.out.below hb3
      obtain ⟨a3, cap3, ⟨d0, -⟩, ⟨d1, g1⟩, -⟩ := hx3.ats
      rw [← HN.out] at d0
      rw [hrq] at d1
      refine hKq.out _ _ (⟨d0, d1⟩) (fun hHeld2 => ?_)
      clear hKq Kq hHeld
      (try simp only [Act.put, List.setIfInBounds_toArray, List.set_cons_zero, List.set_cons_succ])
      have hHeld := hHeld2
      clear hHeld2
      refine wpAnyH_take (i := 17) (v := ?_) (by simp only [List.getElem?_toArray, List.getElem?_cons_succ, List.getElem?_cons_zero]; rfl) (by kernel_rfl) (by kernel_rfl) (by kernel_rfl) (by exact fun _ _ _ h => h) (Or.inl ⟨by rfl, ?_⟩) (by assumption) ?_
      rotate_left 1
      · intro w hSw; (obtain ⟨y0, y1⟩ := hSw); go_simp; (try with_reducible rfl)
      (try simp only [Act.put, List.setIfInBounds_toArray, List.set_cons_zero, List.set_cons_succ])
      refine wpAnyH_done (by kernel_rfl) ?_ _
      clear hHeld c0 c1 f1
      have HR3 := Lib.hid (show RingAt w.heap.size (splB (List.replicate q 0) 0 ((b.ring.drop o).take m)) w3 from by have := hr3.out; rw [splice_bytes] at this; exact this)
      have HB3 := Lib.hid hb3
      have HX3 := Lib.hid hx3
      clear hr3 hb3 hx3
      go_wp2_with fail
      refine wp_region_held_drew (S := (fun w' : World => w'.cell? ⟨B, 0, none⟩ = some (.slice (some ⟨R, 0, none⟩) n n))) (by kernel_rfl) (d0) (fun hHeld => ?_)
      refine wpAnyH_take (i := 0) (v := ?_) (by simp only [List.getElem?_toArray, List.getElem?_cons_zero]; rfl) (by kernel_rfl) (by kernel_rfl) (by kernel_rfl) (by exact fun _ _ _ h => h) (Or.inl ⟨by rfl, ?_⟩) (by assumption) ?_
      rotate_left 1
      · intro w hSw; (try dsimp only at hSw); go_simp; (try with_reducible rfl)
      (try simp only [Act.put, List.setIfInBounds_toArray, List.set_cons_zero, List.set_cons_succ])
      refine wpAnyH_take (i := 1) (v := ?_) (by simp only [List.getElem?_toArray, List.getElem?_cons_succ, List.getElem?_cons_zero]; rfl) (by kernel_rfl) (by kernel_rfl) (by kernel_rfl) (by exact fun _ _ _ h => h) (Or.inl ⟨by rfl, ?_⟩) (by assumption) ?_
      rotate_left 1
      · intro w hSw; (try dsimp only at hSw); go_simp; (try with_reducible rfl)
      (try simp only [Act.put, List.setIfInBounds_toArray, List.set_cons_zero, List.set_cons_succ])
      refine wpAnyH_take (i := 2) (v := ?_) (by simp only [List.getElem?_toArray, List.getElem?_cons_succ, List.getElem?_cons_zero]; rfl) (by kernel_rfl) (by kernel_rfl) (by kernel_rfl) (by exact fun _ _ _ h => h) (Or.inl ⟨by rfl, ?_⟩) (by assumption) ?_
      rotate_left 1
      · intro w hSw; (try dsimp only at hSw); go_simp; (try with_reducible rfl)
      (try simp only [Act.put, List.setIfInBounds_toArray, List.set_cons_zero, List.set_cons_succ])
      refine wpAnyH_take (i := 3) (v := ?_) (by simp only [List.getElem?_toArray, List.getElem?_cons_succ, List.getElem?_cons_zero]; rfl) (by kernel_rfl) (by kernel_rfl) (by kernel_rfl) (by exact fun _ _ _ h => h) (Or.inl ⟨by rfl, ?_⟩) (by assumption) ?_
      rotate_left 1
      · intro w hSw; (try dsimp only at hSw); go_simp; (try with_reducible rfl)
      (try simp only [Act.put, List.setIfInBounds_toArray, List.set_cons_zero, List.set_cons_succ])
      refine wpAnyH_take (i := 4) (v := ?_) (by simp only [List.getElem?_toArray, List.getElem?_cons_succ, List.getElem?_cons_zero]; rfl) (by kernel_rfl) (by kernel_rfl) (by kernel_rfl) (by exact fun _ _ _ h => h) (Or.inl ⟨by rfl, ?_⟩) (by assumption) ?_
      rotate_left 1
      · intro w hSw; (try dsimp only at hSw); go_simp; (try with_reducible rfl)
      (try simp only [Act.put, List.setIfInBounds_toArray, List.set_cons_zero, List.set_cons_succ])
      refine wpAnyH_take (i := 5) (v := ?_) (by simp only [List.getElem?_toArray, List.getElem?_cons_succ, List.getElem?_cons_zero]; rfl) (by kernel_rfl) (by kernel_rfl) (by kernel_rfl) (by exact fun _ _ _ h => h) (Or.inl ⟨by rfl, ?_⟩) (by assumption) ?_
      rotate_left 1
      · intro w hSw; (try dsimp only at hSw); go_simp; (try with_reducible rfl)
      (try simp only [Act.put, List.setIfInBounds_toArray, List.set_cons_zero, List.set_cons_succ])
      refine wpAnyH_take (i := 6) (v := ?_) (by simp only [List.getElem?_toArray, List.getElem?_cons_succ, List.getElem?_cons_zero]; rfl) (by kernel_rfl) (by kernel_rfl) (by kernel_rfl) (by exact fun _ _ _ h => h) (Or.inl ⟨by rfl, ?_⟩) (by assumption) ?_
      rotate_left 1
      · intro w hSw; (try dsimp only at hSw); go_simp; (try with_reducible rfl)
      (try simp only [Act.put, List.setIfInBounds_toArray, List.set_cons_zero, List.set_cons_succ])
      refine wpAnyH_ready (rs := [7]) (by kernel_rfl) (by simp) ?_
      refine AllReadyH.cons (by simp only [List.getElem?_toArray, List.getElem?_cons_succ, List.getElem?_cons_zero]; rfl) (fun Kq hKq => ?_) AllReadyH.nil
      refine step_copy_splice rfl _ _ _ _ rfl 5 Try.underlying22 (by kernel_rfl) _ (some ⟨R, 0, none⟩) (q - m) (q - m) n n rfl rfl w.heap.size m (Lib.byteCells (splB (List.replicate q 0) 0 ((b.ring.drop o).take m))) 5 HR3.out (Lib.byteCells (b.ring.take (q - m))) HCL2.out (fun hp => ⟨by rw [HCL2.out] at hp; have hp2 : 0 < min n (q - m) := hp; simp; omega, _, rfl, by have := ring_src HX3.out.2.1 0 (q - m); rw [List.drop_zero] at this; exact this⟩) (by rw [Lib.byteCells_length, Lib.byteCells_length, List.length_take, length_splB _ _ _ (by rw [List.length_take, List.length_replicate, List.length_drop]; omega), List.length_replicate]; omega) (Lib.byteCells_one _) w.heap.size w HB3.out.drew (Nat.le_refl _) ?_
      intro w4 hr4 hb4
      have hx4 := HBX.out.below hb4
      obtain ⟨a4, cap4, ⟨u0, -⟩, ⟨u1, u1f⟩, -⟩ := hx4.ats
      rw [← HN.out] at u0
      rw [hrq] at u1
      refine hKq.out _ _ (u0) (fun hHeld2 => ?_)
      clear hKq Kq hHeld
      (try simp only [Act.put, List.setIfInBounds_toArray, List.set_cons_zero, List.set_cons_succ])
      have hHeld := hHeld2
      clear hHeld2
      refine wpAnyH_done (by kernel_rfl) ?_ _
      clear hHeld
      have hr5 : RingAt w.heap.size (readB b.ring b.rd.toNat q) w4 := by
        have := hr4.out
        rw [splice_bytes, read_two _ _ _ _ (by rw [← HN.out]; exact hon) (by rw [← HN.out]; exact hq2) (by rw [← HN.out]; exact HM.out)] at this
        unfold RingAt readB
        rw [HRO.out]
        exact this
      have hrl : (readB b.ring b.rd.toNat q).length = q := by
        unfold readB
        rw [HRO.out, List.length_append, List.length_take, List.length_drop, List.length_take, ← HN.out]
        omega
      have hcv : ∀ v : Value, (convert 22 9 (.slice (some ⟨w.heap.size, 0, none⟩) q q)).run Try.prog (w4.setCell ⟨B, 1, none⟩ v) = .ok (.string ⟨(readB b.ring b.rd.toNat q).toArray⟩) (w4.setCell ⟨B, 1, none⟩ v) := fun v => ring_conv (by unfold RingAt; rw [heap_setCell_other w4 ⟨B, 1, none⟩ _ v (by show w.heap.size ≠ B; omega)]; exact hr5) q q hrl
      have hcv2 := hcv (.int .i64 ((r : Int) + (q : Int)))
      have HX5 := Lib.hid (hx4.set (b' := { b with rd := b.rd + q }) 1 (.int .i64 (b.rd + q)) rfl rfl (fun _ _ => rfl))
      have HC5 := Lib.hid ((Chg.of_below (B := B) hb4).setCell 1 (.int .i64 (b.rd + q)))
      rw [hrq] at HX5 HC5
      clear hr4 hb4 hx4 hcv hr5 hrl HR3 HB3 HX3 HRG HB2 HX2
      go_wp2_with fail
      all_goals
        go_ret
        first
        | exact ⟨rfl, HX5.out, HC5.out⟩
        | (have hqm : q = m := by assumption
           subst hqm
           exact ⟨rfl, HX5.out, HC5.out⟩)
end Go.Proofs.Ytfeppkgcimgkeaa
