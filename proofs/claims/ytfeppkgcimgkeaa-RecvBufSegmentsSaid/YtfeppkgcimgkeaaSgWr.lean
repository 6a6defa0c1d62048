/- segment.write. -/
import Derived.Test.YtfeppkgcimgkeaaSgPut2
namespace Go.Proofs.Ytfeppkgcimgkeaa
open Go.RowKit
set_option maxRecDepth 100000 in
set_option maxHeartbeats 4000000 in
theorem segwrite_any (g : Sg) (n₀ : Nat) (a : Option Addr) (cap : Nat) (S : ByteArray) (sum : Nat) (w : World) (ok : g.Ok) (hS : S.data.toList = g.s) (hc : SpAt w n₀ a g.bl) (hn : n₀ ≤ w.heap.size) (hsum : sum < 65536) :
    Calls Try.prog 54 #[.agg #[.int .i64 g.fp, .int .i64 g.tp, .int .i64 g.sq, .int .i64 g.ak, .bool g.syn, .bool g.fin, .bool g.rst, .bool g.has, .int .i64 g.win, .int .i64 g.mss, .bool g.sacks, .slice a g.bl.length cap, .string S], .int .i64 sum] w fun e w' => e = .returned (.string ⟨(g.wr sum).toArray⟩) ∧ Below w.heap.size w w' := by
  have HV := Lib.hid ok
  have HFB := Lib.hid (fun W => flagByte_any g a cap S W)
  have HG := Lib.hid (show g.wr sum = g.head ++ be 2 sum ++ blkB g.bl ++ g.s from rfl)
  have HH := Lib.hid (show g.head = be 2 g.fp.toNat ++ be 2 g.tp.toNat ++ be 4 g.sq.toNat ++ be 4 g.ak.toNat ++ be 1 g.flag ++ be 1 g.bl.length ++ be 2 g.win.toNat ++ be 2 g.mss.toNat from rfl)
  have HMS := Lib.hid (show 0 ≤ g.mss ∧ g.mss ≤ 65535 by
    cases hsy : g.syn with
    | false => have := (ok.mss hsy).1; omega
    | true => rcases ok.mssS hsy with h | h <;> omega)
  have h3 := ok.blen
  have hsl : S.size ≤ 1024 := by
    have := ok.slen
    have e : S.data.toList.length = S.size := by rw [Array.length_toList]; rfl
    rw [hS] at e
    omega
  have HSS := Lib.hid hS
  have HSP := Lib.hid hc
  have HFL := Lib.hid g.flag_lt
  generalize hgw : g.wr sum = gw at HG ⊢
  clear hgw
  generalize g.head = gh at HG HH
  generalize hfl : g.flag = fl at HFB HFL HH
  clear hfl
  have HN := Lib.hid (SgAt.new w g a cap S)
  obtain ⟨fp, tp, sq, ak, syn, fin, rst, has, win, mss, sacks, bl, s⟩ := g
  clear ok hS hc
  dsimp only at HFB HG HH HN HMS h3 HSS HSP ⊢
  have HWB := Lib.hid (sgBel w (.cells #[.int .i64 fp, .int .i64 tp, .int .i64 sq, .int .i64 ak, .bool syn, .bool fin, .bool rst, .bool has, .int .i64 win, .int .i64 mss, .bool sacks, .slice a bl.length cap, .string S] 57))
  go_enter Try.func54, Try.ntmps54
  go_wp2_with fail
  generalize hW1 : w.alloc (.cells #[.int .i64 fp, .int .i64 tp, .int .i64 sq, .int .i64 ak, .bool syn, .bool fin, .bool rst, .bool has, .int .i64 win, .int .i64 mss, .bool sacks, .slice a bl.length cap, .string S] 57) = W1 at HN HWB ⊢
  have hsz1 : W1.heap.size = w.heap.size + 1 := by rw [← hW1]; simp
  have HFR := Lib.hid (Lib.fresh_isBuilder 102 5 W1)
  have HA := Lib.hid ((HN.out).below (sgBel W1 (.cells #[.pointer none, .slice none 0 0] 102)) HN.out.lt)
  have HW := Lib.hid (HWB.out.trans ((sgBel W1 (.cells #[.pointer none, .slice none 0 0] 102)).mono (by omega)))
  have hsz2 : (W1.alloc (.cells #[.pointer none, .slice none 0 0] 102)).heap.size = w.heap.size + 1 + 1 := by simp; omega
  obtain ⟨B, hB⟩ : ∃ B, B = w.heap.size + 1 := ⟨_, rfl⟩
  rw [hsz1, ← hB] at HFR
  rw [← hB] at hsz2 ⊢
  generalize W1.alloc (.cells #[.pointer none, .slice none 0 0] 102) = W2 at HFR HA HW hsz2 ⊢
  have hwB : w.heap.size < B := by omega
  have hwB2 : w.heap.size ≤ B := by omega
  have HSZ2 := Lib.hid hsz2
  have hsz : B ≤ W2.heap.size := by omega
  obtain ⟨acc0, hacc⟩ : ∃ acc0 : List UInt8, acc0 = [] := ⟨_, rfl⟩
  have HACC := Lib.hid hacc
  have HI : Hid (Lib.IsBuilder 102 5 B B (Lib.byteCells acc0) W2) := Lib.hid (by rw [hacc]; exact HFR.out)
  have hal : acc0.length ≤ 0 := by rw [hacc]; exact Nat.le_refl _
  clear hacc HFR hsz1 hW1 HN HWB hB hsz2
  obtain ⟨z0, z1, z2, z3, z4, z5, z6, z7, z8, z9, z10, z11, z12⟩ := HA.out.cells
  dsimp only at z0 z1 z2 z3 z4 z5 z6 z7 z8 z9 z10 z11 z12
  refine (segput2 2 (by omega) (by omega) fp tp (fits2 (by have := HV.out.fp.1; dsimp only at this; omega) HV.out.fp.2) (fits2 (by have := HV.out.tp.1; dsimp only at this; omega) HV.out.tp.2) W2 _ _ HSZ2.out.symm).mono ?_
  rintro e u1a ⟨rfl, hb1⟩
  obtain ⟨t1, hs1⟩ : ∃ t1 : ByteArray, t1 = ⟨(be 2 fp.toNat ++ be 2 tp.toNat).toArray⟩ := ⟨_, rfl⟩
  rw [← hs1]
  have HS1 := Lib.hid (show t1.data.toList = be 2 fp.toNat ++ be 2 tp.toNat by rw [hs1])
  have hs1l : t1.size ≤ 4 := by rw [hs1, ba_size]; simp only [List.length_append, be_length]; omega
  replace HA := Lib.hid (HA.out.below hb1 HA.out.lt)
  replace HW := Lib.hid (HW.out.trans (hb1.mono HW.out.size))
  replace hsz := Nat.le_trans hsz hb1.size
  replace HI := Lib.hid (bld_below HI.out hb1)
  clear hs1 hb1 z0 z1 z2 z3 z4 z5 z6 z7 z8 z9 z10 z11 z12
  obtain ⟨z0, z1, z2, z3, z4, z5, z6, z7, z8, z9, z10, z11, z12⟩ := HA.out.cells
  dsimp only at z0 z1 z2 z3 z4 z5 z6 z7 z8 z9 z10 z11 z12
  go_wp2_with fail
  refine (writeString_any B B (Lib.byteCells acc0) t1 _ HI.out (by rw [Lib.byteCells_length]; omega) hsz).mono ?_
  rintro e u1 ⟨rfl, hI, hb2⟩
  rw [show Lib.strCells t1 = Lib.byteCells t1.data.toList from rfl, ← Lib.byteCells_append] at hI
  have hal2 : (acc0 ++ t1.data.toList).length ≤ 4 := by rw [List.length_append, show t1.data.toList.length = t1.size by rw [Array.length_toList]; rfl]; omega
  replace HACC := Lib.hid (show acc0 ++ t1.data.toList = (be 2 fp.toNat ++ be 2 tp.toNat) by rw [HS1.out, HACC.out]; rfl)
  clear z0 z1 z2 z3 z4 z5 z6 z7 z8 z9 z10 z11 z12
  replace HA := Lib.hid (HA.out.below hb2 hwB)
  replace HW := Lib.hid (HW.out.trans (hb2.mono hwB2))
  replace hsz := Nat.le_trans hsz hb2.size
  replace HI := Lib.hid hI
  clear hI hb2 HS1 hal hs1l
  generalize acc0 ++ t1.data.toList = acc1 at HI HACC hal2
  clear acc0
  have hal := hal2
  clear hal2
  obtain ⟨z0, z1, z2, z3, z4, z5, z6, z7, z8, z9, z10, z11, z12⟩ := HA.out.cells
  dsimp only at z0 z1 z2 z3 z4 z5 z6 z7 z8 z9 z10 z11 z12
  go_wp2_with fail
  refine (segput2 4 (by omega) (by omega) sq ak (fits4 HV.out.sq.1 HV.out.sq.2) (fits4 HV.out.ak.1 HV.out.ak.2) u1 _ _ rfl).mono ?_
  rintro e u2a ⟨rfl, hb1⟩
  obtain ⟨t2, hs1⟩ : ∃ t2 : ByteArray, t2 = ⟨(be 4 sq.toNat ++ be 4 ak.toNat).toArray⟩ := ⟨_, rfl⟩
  rw [← hs1]
  have HS1 := Lib.hid (show t2.data.toList = be 4 sq.toNat ++ be 4 ak.toNat by rw [hs1])
  have hs1l : t2.size ≤ 8 := by rw [hs1, ba_size]; simp only [List.length_append, be_length]; omega
  replace HA := Lib.hid (HA.out.below hb1 HA.out.lt)
  replace HW := Lib.hid (HW.out.trans (hb1.mono HW.out.size))
  replace hsz := Nat.le_trans hsz hb1.size
  replace HI := Lib.hid (bld_below HI.out hb1)
  clear hs1 hb1 z0 z1 z2 z3 z4 z5 z6 z7 z8 z9 z10 z11 z12
  obtain ⟨z0, z1, z2, z3, z4, z5, z6, z7, z8, z9, z10, z11, z12⟩ := HA.out.cells
  dsimp only at z0 z1 z2 z3 z4 z5 z6 z7 z8 z9 z10 z11 z12
  go_wp2_with fail
  refine (writeString_any B B (Lib.byteCells acc1) t2 _ HI.out (by rw [Lib.byteCells_length]; omega) hsz).mono ?_
  rintro e u2 ⟨rfl, hI, hb2⟩
  rw [show Lib.strCells t2 = Lib.byteCells t2.data.toList from rfl, ← Lib.byteCells_append] at hI
  have hal2 : (acc1 ++ t2.data.toList).length ≤ 12 := by rw [List.length_append, show t2.data.toList.length = t2.size by rw [Array.length_toList]; rfl]; omega
  replace HACC := Lib.hid (show acc1 ++ t2.data.toList = (be 2 fp.toNat ++ be 2 tp.toNat) ++ (be 4 sq.toNat ++ be 4 ak.toNat) by rw [HS1.out, HACC.out])
  clear z0 z1 z2 z3 z4 z5 z6 z7 z8 z9 z10 z11 z12
  replace HA := Lib.hid (HA.out.below hb2 hwB)
  replace HW := Lib.hid (HW.out.trans (hb2.mono hwB2))
  replace hsz := Nat.le_trans hsz hb2.size
  replace HI := Lib.hid hI
  clear hI hb2 HS1 hal hs1l
  generalize acc1 ++ t2.data.toList = acc2 at HI HACC hal2
  clear acc1
  have hal := hal2
  clear hal2
  obtain ⟨z0, z1, z2, z3, z4, z5, z6, z7, z8, z9, z10, z11, z12⟩ := HA.out.cells
  dsimp only at z0 z1 z2 z3 z4 z5 z6 z7 z8 z9 z10 z11 z12
  go_wp2_with fail
  clear z0 z1 z2 z3 z4 z5 z6 z7 z8 z9 z10 z11 z12
  refine wp_region_held_drew (S := (SgAt w.heap.size ⟨fp, tp, sq, ak, syn, fin, rst, has, win, mss, sacks, bl, s⟩ a cap S)) (by kernel_rfl) (show SgAt _ _ a cap S u2.drew from HA.out) (fun hHeld => ?_)
  refine wpAnyH_take (i := 0) (v := ?_) (by simp only [List.getElem?_toArray, List.getElem?_cons_zero]; rfl) (by kernel_rfl) (by kernel_rfl) (by kernel_rfl) (by exact fun _ _ _ h => h) (Or.inl ⟨by rfl, ?_⟩) (by assumption) ?_
  rotate_left 1
  · intro w hSw; (obtain ⟨z0, z1, z2, z3, z4, z5, z6, z7, z8, z9, z10, z11, z12⟩ := SgAt.cells hSw; dsimp only at z0 z1 z2 z3 z4 z5 z6 z7 z8 z9 z10 z11 z12); go_simp; (try with_reducible rfl)
  (try simp only [Act.put, List.setIfInBounds_toArray, List.set_cons_zero, List.set_cons_succ])
  refine wpAnyH_take (i := 2) (v := ?_) (by simp only [List.getElem?_toArray, List.getElem?_cons_succ, List.getElem?_cons_zero]; rfl) (by kernel_rfl) (by kernel_rfl) (by kernel_rfl) (by exact fun _ _ _ h => h) (Or.inl ⟨by rfl, ?_⟩) (by assumption) ?_
  rotate_left 1
  · intro w hSw; (obtain ⟨z0, z1, z2, z3, z4, z5, z6, z7, z8, z9, z10, z11, z12⟩ := SgAt.cells hSw; dsimp only at z0 z1 z2 z3 z4 z5 z6 z7 z8 z9 z10 z11 z12); go_simp; (try with_reducible rfl)
  (try simp only [Act.put, List.setIfInBounds_toArray, List.set_cons_zero, List.set_cons_succ])
  refine wpAnyH_take (i := 3) (v := ?_) (by simp only [List.getElem?_toArray, List.getElem?_cons_succ, List.getElem?_cons_zero]; rfl) (by kernel_rfl) (by kernel_rfl) (by kernel_rfl) (by exact fun _ _ _ h => h) (Or.inl ⟨by rfl, ?_⟩) (by assumption) ?_
  rotate_left 1
  · intro w hSw; (obtain ⟨z0, z1, z2, z3, z4, z5, z6, z7, z8, z9, z10, z11, z12⟩ := SgAt.cells hSw; dsimp only at z0 z1 z2 z3 z4 z5 z6 z7 z8 z9 z10 z11 z12); go_simp; (try with_reducible rfl)
  (try simp only [Act.put, List.setIfInBounds_toArray, List.set_cons_zero, List.set_cons_succ])
  refine wpAnyH_take (i := 4) (v := ?_) (by simp only [List.getElem?_toArray, List.getElem?_cons_succ, List.getElem?_cons_zero]; rfl) (by kernel_rfl) (by kernel_rfl) (by kernel_rfl) (by exact fun _ _ _ h => h) (Or.inl ⟨by rfl, ?_⟩) (by assumption) ?_
  rotate_left 1
  · intro w hSw; (obtain ⟨z0, z1, z2, z3, z4, z5, z6, z7, z8, z9, z10, z11, z12⟩ := SgAt.cells hSw; dsimp only at z0 z1 z2 z3 z4 z5 z6 z7 z8 z9 z10 z11 z12); go_simp; (try with_reducible rfl)
  (try simp only [Act.put, List.setIfInBounds_toArray, List.set_cons_zero, List.set_cons_succ])
  refine wpAnyH_ready (rs := [1]) (by kernel_rfl) (by simp) ?_
  refine AllReadyH.cons (by simp only [List.getElem?_toArray, List.getElem?_cons_succ, List.getElem?_cons_zero]; rfl) (fun Kq hKq => ?_) AllReadyH.nil
  go_simp
  refine (HFB.out _).mono ?_
  rintro e r1 ⟨rfl, hb1⟩
  replace HA := Lib.hid (HA.out.below ((Below.refl _ _).drew.trans hb1) HA.out.lt)
  replace HW := Lib.hid (HW.out.trans (((Below.refl _ u2).drew.trans hb1).mono HW.out.size))
  replace hsz := Nat.le_trans hsz (show _ ≤ r1.heap.size from hb1.size)
  replace HI := Lib.hid (bld_below HI.out ((Below.refl _ u2).drew.trans hb1))
  clear hb1
  go_simp
  refine hKq.out _ _ (HA.out) (fun hHeld2 => ?_)
  clear hKq Kq hHeld
  (try simp only [Act.put, List.setIfInBounds_toArray, List.set_cons_zero, List.set_cons_succ])
  have hHeld := hHeld2
  clear hHeld2
  refine wpAnyH_ready (rs := [5]) (by kernel_rfl) (by simp) ?_
  refine AllReadyH.cons (by simp only [List.getElem?_toArray, List.getElem?_cons_succ, List.getElem?_cons_zero]; rfl) (fun Kq hKq => ?_) AllReadyH.nil
  go_simp
  refine hKq.out _ _ (HA.out.below (sgBel r1 _) HA.out.lt) (fun hHeld2 => ?_)
  clear hKq Kq hHeld
  (try simp only [Act.put, List.setIfInBounds_toArray, List.set_cons_zero, List.set_cons_succ])
  have hHeld := hHeld2
  clear hHeld2
  refine wpAnyH_ready (rs := [6]) (by kernel_rfl) (by simp) ?_
  refine AllReadyH.cons (by simp only [List.getElem?_toArray, List.getElem?_cons_succ, List.getElem?_cons_zero]; rfl) (fun Kq hKq => ?_) AllReadyH.nil
  go_simp
  refine (segput2 1 (by omega) (by omega) ((fl : Nat) : Int) ((bl.length : Nat) : Int) (fits1 (by omega) (by have := HFL.out; omega)) (fits1 (by omega) (by omega)) r1 _ _ rfl).mono ?_
  rintro e r2 ⟨rfl, hb1⟩
  obtain ⟨t3, hs1⟩ : ∃ t3 : ByteArray, t3 = ⟨(be 1 ((fl : Nat) : Int).toNat ++ be 1 ((bl.length : Nat) : Int).toNat).toArray⟩ := ⟨_, rfl⟩
  rw [← hs1]
  have HS1 := Lib.hid (show t3.data.toList = be 1 ((fl : Nat) : Int).toNat ++ be 1 ((bl.length : Nat) : Int).toNat by rw [hs1])
  have hs1l : t3.size ≤ 2 := by rw [hs1, ba_size]; simp only [List.length_append, be_length]; omega
  replace HA := Lib.hid (HA.out.below hb1 HA.out.lt)
  replace HW := Lib.hid (HW.out.trans (hb1.mono HW.out.size))
  replace hsz := Nat.le_trans hsz hb1.size
  replace HI := Lib.hid (bld_below HI.out hb1)
  clear hs1 hb1
  go_simp
  refine hKq.out _ _ (HA.out) (fun hHeld2 => ?_)
  clear hKq Kq hHeld
  (try simp only [Act.put, List.setIfInBounds_toArray, List.set_cons_zero, List.set_cons_succ])
  have hHeld := hHeld2
  clear hHeld2
  refine wpAnyH_ready (rs := [7]) (by kernel_rfl) (by simp) ?_
  refine AllReadyH.cons (by simp only [List.getElem?_toArray, List.getElem?_cons_succ, List.getElem?_cons_zero]; rfl) (fun Kq hKq => ?_) AllReadyH.nil
  go_simp
  refine (writeString_any B B (Lib.byteCells acc2) t3 _ HI.out (by rw [Lib.byteCells_length]; omega) hsz).mono ?_
  rintro e u3 ⟨rfl, hI, hb2⟩
  rw [show Lib.strCells t3 = Lib.byteCells t3.data.toList from rfl, ← Lib.byteCells_append] at hI
  have hal2 : (acc2 ++ t3.data.toList).length ≤ 14 := by rw [List.length_append, show t3.data.toList.length = t3.size by rw [Array.length_toList]; rfl]; omega
  replace HACC := Lib.hid (show acc2 ++ t3.data.toList = (be 2 fp.toNat ++ be 2 tp.toNat) ++ (be 4 sq.toNat ++ be 4 ak.toNat) ++ (be 1 ((fl : Nat) : Int).toNat ++ be 1 ((bl.length : Nat) : Int).toNat) by rw [HS1.out, HACC.out])
  replace HA := Lib.hid (HA.out.below hb2 hwB)
  replace HW := Lib.hid (HW.out.trans (hb2.mono hwB2))
  replace hsz := Nat.le_trans hsz hb2.size
  replace HI := Lib.hid hI
  clear hI hb2 HS1 hal hs1l
  generalize acc2 ++ t3.data.toList = acc3 at HI HACC hal2
  clear acc2
  have hal := hal2
  clear hal2
  go_simp
  refine hKq.out _ _ (HA.out) (fun hHeld2 => ?_)
  clear hKq Kq hHeld
  (try simp only [Act.put, List.setIfInBounds_toArray, List.set_cons_zero, List.set_cons_succ])
  have hHeld := hHeld2
  clear hHeld2
  refine wpAnyH_done (by kernel_rfl) ?_ _
  skip
  obtain ⟨z0, z1, z2, z3, z4, z5, z6, z7, z8, z9, z10, z11, z12⟩ := HA.out.cells
  dsimp only at z0 z1 z2 z3 z4 z5 z6 z7 z8 z9 z10 z11 z12
  go_wp2_with fail
  refine (segput3 2 (by omega) (by omega) win mss ((sum : Nat) : Int) (fits2 HV.out.win.1 HV.out.win.2) (fits2 (HMS.out).1 (HMS.out).2) (fits2 (by omega) (by omega)) u3 _ _ rfl).mono ?_
  rintro e u4a ⟨rfl, hb1⟩
  obtain ⟨t4, hs1⟩ : ∃ t4 : ByteArray, t4 = ⟨(be 2 win.toNat ++ (be 2 mss.toNat ++ be 2 ((sum : Nat) : Int).toNat)).toArray⟩ := ⟨_, rfl⟩
  rw [← hs1]
  have HS1 := Lib.hid (show t4.data.toList = be 2 win.toNat ++ (be 2 mss.toNat ++ be 2 ((sum : Nat) : Int).toNat) by rw [hs1])
  have hs1l : t4.size ≤ 6 := by rw [hs1, ba_size]; simp only [List.length_append, be_length]; omega
  replace HA := Lib.hid (HA.out.below hb1 HA.out.lt)
  replace HW := Lib.hid (HW.out.trans (hb1.mono HW.out.size))
  replace hsz := Nat.le_trans hsz hb1.size
  replace HI := Lib.hid (bld_below HI.out hb1)
  clear hs1 hb1 z0 z1 z2 z3 z4 z5 z6 z7 z8 z9 z10 z11 z12
  obtain ⟨z0, z1, z2, z3, z4, z5, z6, z7, z8, z9, z10, z11, z12⟩ := HA.out.cells
  dsimp only at z0 z1 z2 z3 z4 z5 z6 z7 z8 z9 z10 z11 z12
  go_wp2_with fail
  refine (writeString_any B B (Lib.byteCells acc3) t4 _ HI.out (by rw [Lib.byteCells_length]; omega) hsz).mono ?_
  rintro e u4 ⟨rfl, hI, hb2⟩
  rw [show Lib.strCells t4 = Lib.byteCells t4.data.toList from rfl, ← Lib.byteCells_append] at hI
  have hal2 : (acc3 ++ t4.data.toList).length ≤ 20 := by rw [List.length_append, show t4.data.toList.length = t4.size by rw [Array.length_toList]; rfl]; omega
  replace HACC := Lib.hid (show acc3 ++ t4.data.toList = (be 2 fp.toNat ++ be 2 tp.toNat) ++ (be 4 sq.toNat ++ be 4 ak.toNat) ++ (be 1 ((fl : Nat) : Int).toNat ++ be 1 ((bl.length : Nat) : Int).toNat) ++ (be 2 win.toNat ++ (be 2 mss.toNat ++ be 2 ((sum : Nat) : Int).toNat)) by rw [HS1.out, HACC.out])
  clear z0 z1 z2 z3 z4 z5 z6 z7 z8 z9 z10 z11 z12
  replace HA := Lib.hid (HA.out.below hb2 hwB)
  replace HW := Lib.hid (HW.out.trans (hb2.mono hwB2))
  replace hsz := Nat.le_trans hsz hb2.size
  replace HI := Lib.hid hI
  clear hI hb2 HS1 hal hs1l
  generalize acc3 ++ t4.data.toList = acc4 at HI HACC hal2
  clear acc3
  have hal := hal2
  clear hal2
  obtain ⟨z0, z1, z2, z3, z4, z5, z6, z7, z8, z9, z10, z11, z12⟩ := HA.out.cells
  dsimp only at z0 z1 z2 z3 z4 z5 z6 z7 z8 z9 z10 z11 z12
  go_wp2_with fail
  obtain ⟨W4, hW4⟩ : ∃ W4, W4 = u4 := ⟨_, rfl⟩
  subst hW4
  have hal4 : acc4.length ≤ 20 := hal
  clear z0 z1 z2 z3 z4 z5 z6 z7 z8 z9 z10 z11 z12 hal
  go_loopw [41] (fun p wr => ∃ k : Nat, k ≤ bl.length ∧ p = .int .i64 (k : Int) ∧ Lib.IsBuilder 102 5 B B (Lib.byteCells (acc4 ++ blkB (bl.take k))) wr ∧ SgAt w.heap.size ⟨fp, tp, sq, ak, syn, fin, rst, has, win, mss, sacks, bl, s⟩ a cap S wr ∧ Below w.heap.size w wr ∧ B ≤ wr.heap.size) (fun p _ => bl.length - (intOf p).toNat)
  case atStart => exact ⟨0, Nat.zero_le _, rfl, by rw [List.take_zero]; show Lib.IsBuilder _ _ _ _ (Lib.byteCells (acc4 ++ [])) _; rw [List.append_nil]; exact HI.out, HA.out, HW.out, hsz⟩
  case round =>
    clear HI HA HW hsz
    obtain ⟨k, hk, rfl, hI, hA, hWB, hsz⟩ := hrel
    have HI := Lib.hid hI
    have HA := Lib.hid hA
    have HW := Lib.hid hWB
    have hws := hWB.size
    clear hI hA hWB
    have hlen : (acc4 ++ blkB (bl.take k)).length ≤ 44 := by rw [List.length_append, blkB_length, List.length_take]; omega
    by_cases hlt : k < bl.length
    · obtain ⟨bb, off, rfl, hbl, hcs⟩ := HSP.out.cells (by omega)
      obtain ⟨c0, c1⟩ := hcs k hlt
      have hv := HV.out.blk _ (List.getElem_mem hlt)
      have d0 := (HW.out.cell (p := ⟨bb, _, none⟩) (by show bb < w.heap.size; omega)).trans c0
      have d1 := (HW.out.cell (p := ⟨bb, _, none⟩) (by show bb < w.heap.size; omega)).trans c1
      have HS := Lib.hid (show blkB (bl.take (k + 1)) = blkB (bl.take k) ++ (be 4 bl[k].1.toNat ++ be 4 bl[k].2.toNat) by rw [List.take_succ_eq_append_getElem hlt, blkB_append]; show _ ++ (be 4 _ ++ be 4 _ ++ []) = _; rw [List.append_nil])
      clear hcs c0 c1
      have HX : ∃ x, x = bl[k] := ⟨_, rfl⟩
      clear HX
      generalize bl[k] = x at d0 d1 hv HS
      obtain ⟨x1, x2⟩ := x
      obtain ⟨⟨v1, v2⟩, ⟨v3, v4⟩, -⟩ := hv
      dsimp only at d0 d1 v1 v2 v3 v4 HS
      have HF1 := Lib.hid (fits4 v1 v2)
      have HF2 := Lib.hid (fits4 v3 v4)
      clear v1 v2 v3 v4
      have hki : (k : Int) < (bl.length : Int) := by omega
      have hk3 : (k : Int) ≤ 3 := by omega
      obtain ⟨W5, hW5⟩ : ∃ W5, W5 = wr.alloc (.cells #[.int .i64 x1, .int .i64 x2] 51) := ⟨_, rfl⟩
      have hb5 : Below wr.heap.size wr W5 := by rw [hW5]; exact sgBel _ _
      have hz5 : W5.heap.size = wr.heap.size + 1 := by rw [hW5]; simp
      have HW5 := Lib.hid hW5
      have HZ5 := Lib.hid hz5
      replace HA := Lib.hid (HA.out.below hb5 HA.out.lt)
      replace HW := Lib.hid (HW.out.trans (hb5.mono HW.out.size))
      replace HI := Lib.hid (bld_below HI.out hb5)
      have hszz : B ≤ W5.heap.size := by omega
      clear hW5 hz5 hb5
      go_wp2_with fail
      rw [← HW5.out]
      refine (segput2 4 (by omega) (by omega) x1 x2 HF1.out HF2.out W5 _ _ HZ5.out.symm).mono ?_
      rintro e y1 ⟨rfl, hb1⟩
      obtain ⟨q1, hs1⟩ : ∃ q1 : ByteArray, q1 = ⟨(be 4 x1.toNat ++ be 4 x2.toNat).toArray⟩ := ⟨_, rfl⟩
      rw [← hs1]
      have HS1 := Lib.hid (show q1.data.toList = be 4 x1.toNat ++ be 4 x2.toNat by rw [hs1])
      have hs1l : q1.size ≤ 8 := by rw [hs1, ba_size]; simp only [List.length_append, be_length]; omega
      replace HA := Lib.hid (HA.out.below hb1 HA.out.lt)
      replace HW := Lib.hid (HW.out.trans (hb1.mono HW.out.size))
      replace hszz := Nat.le_trans hszz hb1.size
      replace HI := Lib.hid (bld_below HI.out hb1)
      clear hs1 hb1 d0 d1
      go_wp2_with fail
      refine (writeString_any B B (Lib.byteCells (acc4 ++ blkB (bl.take k))) q1 _ HI.out (by rw [Lib.byteCells_length]; omega) hszz).mono ?_
      rintro e y2 ⟨rfl, hI, hb2⟩
      rw [show Lib.strCells q1 = Lib.byteCells q1.data.toList from rfl, ← Lib.byteCells_append, HS1.out, List.append_assoc, ← HS.out] at hI
      replace HA := Lib.hid (HA.out.below hb2 hwB)
      replace HW := Lib.hid (HW.out.trans (hb2.mono hwB2))
      replace hszz := Nat.le_trans hszz hb2.size
      replace HI := Lib.hid hI
      clear hI hb2
      go_wp2_with fail
      exact ⟨⟨k + 1, hlt, by simp, HI.out, HA.out, HW.out, hszz⟩, by simp [intOf]; omega⟩
    · obtain rfl : k = bl.length := by omega
      have HTK := Lib.hid (show blkB (bl.take bl.length) = blkB bl by rw [List.take_length])
      rw [HTK.out] at HI hlen
      obtain ⟨-, -, -, -, -, -, -, -, -, -, -, -, z12⟩ := HA.out.cells
      try dsimp only at z12
      go_wp2_with fail
      refine (writeString_any B B (Lib.byteCells (acc4 ++ blkB bl)) S _ HI.out (by rw [Lib.byteCells_length]; omega) hsz).mono ?_
      rintro e y2 ⟨rfl, hI, hb2⟩
      rw [show Lib.strCells S = Lib.byteCells S.data.toList from rfl, ← Lib.byteCells_append] at hI
      replace HW := Lib.hid (HW.out.trans (hb2.mono hwB2))
      replace hsz := Nat.le_trans hsz hb2.size
      replace HI := Lib.hid hI
      clear hI hb2 z12
      go_wp2_with fail
      refine (bstring_any B B _ _ HI.out hsz).mono ?_
      rintro e y3 ⟨rfl, hb3⟩
      have HE := Lib.hid (show (acc4 ++ blkB bl) ++ S.data.toList = gw by rw [HG.out, HH.out, HACC.out, HSS.out]; simp only [Int.toNat_natCast, List.append_assoc])
      rw [HE.out]
      replace HW := Lib.hid (HW.out.trans (hb3.mono hwB2))
      clear hb3
      go_wp2_with fail
      go_ret
      exact ⟨rfl, HW.out⟩

end Go.Proofs.Ytfeppkgcimgkeaa
