/- The reference's Decode. -/
import Derived.Test.YtldmkoicjpkdiaaDoorLkRef2
namespace Go.Proofs.YtldmkoicjpkdiaaDoor
open Go.RowKit
theorem list_size (s : ByteArray) : s.data.toList.length = s.size := by rw [Array.length_toList]; rfl
set_option maxHeartbeats 1000000 in
theorem rdecode_short (s : ByteArray) (hs : s.size ≤ 9223372036854775807) (h : s.size < 11 ∨ 1035 < s.size) (w : World) :
    Calls Tryd.prog 14 #[.string s] w fun e w' => e = .returned (decRes s) ∧ Below w.heap.size w w' := by
  have hd : decB s.data.toList = false := by
    rw [Bool.eq_false_iff]
    intro hd
    obtain ⟨_, h1, _, _, h2⟩ := ref_dec hd
    rw [list_size] at h1 h2
    omega
  have HD := Lib.hid (decRes_no hd)
  clear hd
  rcases h with h | h
  · have h' : decide ((s.size : Int) < 11) = true := by simp; omega
    go_enter Tryd.func14, Tryd.ntmps14
    go_wp2_with fail
    refine bodyPost_ret (v := .tuple #[.agg #[.int .i64 0, .int .i64 0, .int .i64 0, .string ⟨#[]⟩], .int .i64 40]) (by simp [results, Tryd.results14, go_sem]) rfl ⟨by rw [HD.out], ?_⟩
    exact (Below.refl _ _).alloc (Nat.le_refl _) _
  · have h' : decide ((s.size : Int) < 11) = false := by simp; omega
    have h2 : decide (1035 < (s.size : Int)) = true := by simp; omega
    go_enter Tryd.func14, Tryd.ntmps14
    go_wp2_with fail
    refine bodyPost_ret (v := .tuple #[.agg #[.int .i64 0, .int .i64 0, .int .i64 0, .string ⟨#[]⟩], .int .i64 40]) (by simp [results, Tryd.results14, go_sem]) rfl ⟨by rw [HD.out], ?_⟩
    exact (Below.refl _ _).alloc (Nat.le_refl _) _
theorem rdec_ret (s : ByteArray) (w W : World) (tm : Array Value) (a b c er : Int) (t : ByteArray) {v0 v1 v2 v3 : Value}
    (h0 : W.cell? ⟨w.heap.size, 0, none⟩ = some v0) (h1 : W.cell? ⟨w.heap.size, 1, none⟩ = some v1) (h2 : W.cell? ⟨w.heap.size, 2, none⟩ = some v2) (h3 : W.cell? ⟨w.heap.size, 3, none⟩ = some v3)
    (t2 : tm[2]?.getD undef = .pointer (some ⟨w.heap.size, 0, none⟩)) (t3 : tm[3]?.getD undef = .int .i64 er) (hB : Below w.heap.size w W)
    (hR : decRes s = .tuple #[.agg #[.int .i64 a, .int .i64 b, .int .i64 c, .string t], .int .i64 er]) :
    bodyPost Tryd.prog Tryd.f14 (fun e W' => e = .returned (decRes s) ∧ Below w.heap.size w W') .ret { tmps := tm, defers := [] } (set4 W w.heap.size a b c t) := by
  obtain ⟨k0, k1, k2, k3⟩ := set4_cells a b c t h0 h1 h2 h3
  have hB4 : Below w.heap.size w (set4 W w.heap.size a b c t) := (((hB.setCell (p := ⟨w.heap.size, 0, none⟩) (Nat.le_refl _) _).setCell (p := ⟨w.heap.size, 1, none⟩) (Nat.le_refl _) _).setCell (p := ⟨w.heap.size, 2, none⟩) (Nat.le_refl _) _).setCell (p := ⟨w.heap.size, 3, none⟩) (Nat.le_refl _) _
  generalize set4 W w.heap.size a b c t = W4 at *
  exact bodyPost_ret (v := .tuple #[.agg #[.int .i64 a, .int .i64 b, .int .i64 c, .string t], .int .i64 er]) (by simp [results, Tryd.results14, go_sem, t2, t3, k0, k1, k2, k3]) rfl ⟨by rw [hR], hB4⟩
set_option maxRecDepth 100000 in
set_option maxHeartbeats 4000000 in
theorem rdecode_long (s : ByteArray) (g1 : 11 ≤ s.size) (g2 : s.size ≤ 1035) (w : World) :
    Calls Tryd.prog 14 #[.string s] w fun e w' => e = .returned (decRes s) ∧ Below w.heap.size w w' := by
  have h' : decide ((s.size : Int) < 11) = false := by simp; omega
  have h2 : decide (1035 < (s.size : Int)) = false := by simp; omega
  have hX : (s.extract 7 (s.size - 4)).data.toList = (s.data.toList.drop 7).take (s.data.toList.length - 11) := by
    rw [list_size, ← ext_toList, show 7 + (s.size - 11) = s.size - 4 by omega]
  have hXs : (s.extract 7 (s.size - 4)).size ≤ 1024 := by rw [ByteArray.size_extract]; omega
  have hF : refF s.data.toList = ⟨(fld0 s.data.toList : Nat), (fld1 s.data.toList : Nat), (fld2 s.data.toList : Nat), (s.extract 7 (s.size - 4)).data.toList⟩ := by rw [hX]; rfl
  have HF := Lib.hid hF
  clear hX hF
  go_enter Tryd.func14, Tryd.ntmps14
  go_wp2_with fail
  have wS : IntKind.i64.wrap ((s.size : Int) - 4) = (s.size : Int) - 4 := IntWalk.i64_in _ (by omega)
  have n1 : 0 ≤ (s.size : Int) - 4 := by omega
  have n4 : 4 ≤ (s.size : Int) := by omega
  have n5 : 4 ≤ s.size := by omega
  have n2 : (s.size : Int) - 4 ≤ (s.size : Int) := by omega
  have n3 : 7 ≤ (s.size : Int) - 4 := by omega
  have tS : ((s.size : Int) - 4).toNat = s.size - 4 := by omega
  go_region_with (first | (go_at_call 31; ((with_reducible refine (rget0 s g1 g2 _).mono ?_); rintro e w1 ⟨rfl, rfl⟩)) | (go_at_call 31; ((with_reducible refine (rget1 s g1 g2 _).mono ?_); rintro e w1 ⟨rfl, rfl⟩)) | (go_at_call 31; ((with_reducible refine (rget2 s g1 g2 _).mono ?_); rintro e w1 ⟨rfl, rfl⟩)))
  all_goals clear wS n1 n2 n3 n4 n5 tS
  all_goals go_wp2_with fail
  all_goals
    by_cases hok : (refF s.data.toList).okB = true
    · rw [HF.out] at hok
      have HOK := Lib.hid hok
      clear hok
      refine (rencode_yes _ _ _ _ HOK.out _).mono ?_
      rintro e W3 ⟨rfl, hb⟩
      have r0 : W3.cell? ⟨w.heap.size, 0, none⟩ = some (.int .i64 0) := (hb.cell (p := ⟨w.heap.size, 0, none⟩) (by simp <;> omega)).trans (by go_simp)
      have z0 : W3.frozen? ⟨w.heap.size, 0, none⟩ = false := (hb.frozen (p := ⟨w.heap.size, 0, none⟩) (by simp <;> omega)).trans (by go_simp)
      have x0 : W3.cell? ⟨w.heap.size + 1, 0, none⟩ = some (.int .i64 (fld0 s.data.toList : Nat)) := (hb.cell (p := ⟨w.heap.size + 1, 0, none⟩) (by simp <;> omega)).trans (by go_simp)
      have r1 : W3.cell? ⟨w.heap.size, 1, none⟩ = some (.int .i64 0) := (hb.cell (p := ⟨w.heap.size, 1, none⟩) (by simp <;> omega)).trans (by go_simp)
      have z1 : W3.frozen? ⟨w.heap.size, 1, none⟩ = false := (hb.frozen (p := ⟨w.heap.size, 1, none⟩) (by simp <;> omega)).trans (by go_simp)
      have x1 : W3.cell? ⟨w.heap.size + 1, 1, none⟩ = some (.int .i64 (fld1 s.data.toList : Nat)) := (hb.cell (p := ⟨w.heap.size + 1, 1, none⟩) (by simp <;> omega)).trans (by go_simp)
      have r2 : W3.cell? ⟨w.heap.size, 2, none⟩ = some (.int .i64 0) := (hb.cell (p := ⟨w.heap.size, 2, none⟩) (by simp <;> omega)).trans (by go_simp)
      have z2 : W3.frozen? ⟨w.heap.size, 2, none⟩ = false := (hb.frozen (p := ⟨w.heap.size, 2, none⟩) (by simp <;> omega)).trans (by go_simp)
      have x2 : W3.cell? ⟨w.heap.size + 1, 2, none⟩ = some (.int .i64 (fld2 s.data.toList : Nat)) := (hb.cell (p := ⟨w.heap.size + 1, 2, none⟩) (by simp <;> omega)).trans (by go_simp)
      have r3 : W3.cell? ⟨w.heap.size, 3, none⟩ = some (.string ⟨#[]⟩) := (hb.cell (p := ⟨w.heap.size, 3, none⟩) (by simp <;> omega)).trans (by go_simp)
      have z3 : W3.frozen? ⟨w.heap.size, 3, none⟩ = false := (hb.frozen (p := ⟨w.heap.size, 3, none⟩) (by simp <;> omega)).trans (by go_simp)
      have x3 : W3.cell? ⟨w.heap.size + 1, 3, none⟩ = some (.string (s.extract 7 (s.size - 4))) := (hb.cell (p := ⟨w.heap.size + 1, 3, none⟩) (by simp <;> omega)).trans (by go_simp)
      have hB3 := below_val (((Below.refl w.heap.size w).alloc (Nat.le_refl _) _).alloc (by simp) _).drew (by simp <;> omega) hb
      clear hb
      by_cases heq : Fr.encL ⟨(fld0 s.data.toList : Nat), (fld1 s.data.toList : Nat), (fld2 s.data.toList : Nat), (s.extract 7 (s.size - 4)).data.toList⟩ = s.data.toList
      · have hd := dec_ref (by rw [HF.out]; exact HOK.out) (by rw [HF.out]; exact heq)
        have hl := (ref_dec hd).2.1
        rw [list_size] at hl
        have hR : decRes s = .tuple #[.agg #[.int .i64 (fld0 s.data.toList : Nat), .int .i64 (fld1 s.data.toList : Nat), .int .i64 (fld2 s.data.toList : Nat), .string (s.extract 7 (s.size - 4))], .int .i64 0] := by rw [decRes_yes hd, show 7 + fld3 s.data.toList = s.size - 4 by omega]
        have HR := Lib.hid hR
        clear hR hd hl
        rw [ba_same heq]
        clear heq
        go_wp2_with fail
        exact rdec_ret s w W3 _ _ _ _ 0 _ r0 r1 r2 r3 rfl rfl hB3 HR.out
      · have hd : decB s.data.toList = false := by
            rw [Bool.eq_false_iff]
            intro hd
            exact heq (by rw [← HF.out]; exact (ref_dec hd).2.2.2.1)
        have HR := Lib.hid (decRes_no hd)
        clear hd
        have e1 : ((⟨(Fr.encL ⟨(fld0 s.data.toList : Nat), (fld1 s.data.toList : Nat), (fld2 s.data.toList : Nat), (s.extract 7 (s.size - 4)).data.toList⟩).toArray⟩ : ByteArray).toList == s.toList) = false := by
            rw [beq_eq_false_iff_ne]
            intro h
            refine heq ?_
            have g : ∀ x : ByteArray, x.toList = x.data.toList := fun x => by simp [ByteArray.toList_eq]
            rw [g, g] at h
            exact h
        clear heq
        generalize (⟨(Fr.encL ⟨(fld0 s.data.toList : Nat), (fld1 s.data.toList : Nat), (fld2 s.data.toList : Nat), (s.extract 7 (s.size - 4)).data.toList⟩).toArray⟩ : ByteArray) = E at *
        have e2 : (E.toList != s.toList) = true := by rw [bne, e1]; rfl
        go_wp2_with fail
        exact rdec_ret s w W3 _ 0 0 0 40 ⟨#[]⟩ r0 r1 r2 r3 rfl rfl hB3 HR.out
    · have hd : decB s.data.toList = false := by
          rw [Bool.eq_false_iff]
          intro hd
          exact hok (ref_dec hd).2.2.1
      have HR := Lib.hid (decRes_no hd)
      clear hd
      rw [HF.out] at hok
      have HOK := Lib.hid (Bool.eq_false_iff.2 hok)
      clear hok
      refine (rencode_no _ _ _ _ (by omega) HOK.out _).mono ?_
      rintro e W3 ⟨rfl, hb⟩
      have r0 : W3.cell? ⟨w.heap.size, 0, none⟩ = some (.int .i64 0) := (hb.cell (p := ⟨w.heap.size, 0, none⟩) (by simp <;> omega)).trans (by go_simp)
      have z0 : W3.frozen? ⟨w.heap.size, 0, none⟩ = false := (hb.frozen (p := ⟨w.heap.size, 0, none⟩) (by simp <;> omega)).trans (by go_simp)
      have x0 : W3.cell? ⟨w.heap.size + 1, 0, none⟩ = some (.int .i64 (fld0 s.data.toList : Nat)) := (hb.cell (p := ⟨w.heap.size + 1, 0, none⟩) (by simp <;> omega)).trans (by go_simp)
      have r1 : W3.cell? ⟨w.heap.size, 1, none⟩ = some (.int .i64 0) := (hb.cell (p := ⟨w.heap.size, 1, none⟩) (by simp <;> omega)).trans (by go_simp)
      have z1 : W3.frozen? ⟨w.heap.size, 1, none⟩ = false := (hb.frozen (p := ⟨w.heap.size, 1, none⟩) (by simp <;> omega)).trans (by go_simp)
      have x1 : W3.cell? ⟨w.heap.size + 1, 1, none⟩ = some (.int .i64 (fld1 s.data.toList : Nat)) := (hb.cell (p := ⟨w.heap.size + 1, 1, none⟩) (by simp <;> omega)).trans (by go_simp)
      have r2 : W3.cell? ⟨w.heap.size, 2, none⟩ = some (.int .i64 0) := (hb.cell (p := ⟨w.heap.size, 2, none⟩) (by simp <;> omega)).trans (by go_simp)
      have z2 : W3.frozen? ⟨w.heap.size, 2, none⟩ = false := (hb.frozen (p := ⟨w.heap.size, 2, none⟩) (by simp <;> omega)).trans (by go_simp)
      have x2 : W3.cell? ⟨w.heap.size + 1, 2, none⟩ = some (.int .i64 (fld2 s.data.toList : Nat)) := (hb.cell (p := ⟨w.heap.size + 1, 2, none⟩) (by simp <;> omega)).trans (by go_simp)
      have r3 : W3.cell? ⟨w.heap.size, 3, none⟩ = some (.string ⟨#[]⟩) := (hb.cell (p := ⟨w.heap.size, 3, none⟩) (by simp <;> omega)).trans (by go_simp)
      have z3 : W3.frozen? ⟨w.heap.size, 3, none⟩ = false := (hb.frozen (p := ⟨w.heap.size, 3, none⟩) (by simp <;> omega)).trans (by go_simp)
      have x3 : W3.cell? ⟨w.heap.size + 1, 3, none⟩ = some (.string (s.extract 7 (s.size - 4))) := (hb.cell (p := ⟨w.heap.size + 1, 3, none⟩) (by simp <;> omega)).trans (by go_simp)
      have hB3 := below_val (((Below.refl w.heap.size w).alloc (Nat.le_refl _) _).alloc (by simp) _).drew (by simp <;> omega) hb
      clear hb
      go_wp2_with fail
      exact rdec_ret s w W3 _ 0 0 0 40 ⟨#[]⟩ r0 r1 r2 r3 rfl rfl hB3 HR.out
end Go.Proofs.YtldmkoicjpkdiaaDoor
