/- recvbuf: the ring is written. -/
import Derived.Test.YtfeppkgcimgkeaaRbPlain
import Derived.Test.YtfeppkgcimgkeaaRgKit
import Derived.Lib.BufferWrite
import Derived.Deep.RegionLaw
import Derived.BigRegion
import Derived.Laws.CopyOwn
namespace Go.Proofs.Ytfeppkgcimgkeaa
open Go.RowKit Go.Shelf
theorem run_copy_str {P : Program} (w : World) (dT sT ty elem : TypeId) (g o dLen dCap : Nat) (s : ByteArray) (cur : Array Value) (t : TypeId)
    (hu : P.underlying dT = some (.slice elem)) (hs : (P.info? elem).map (·.size) = some 1) (hg : w.heap[g]? = some (.cells cur t (0, 0))) (hfit : o + min s.size dLen ≤ cur.size) :
    (Builtin.copy_ #[dT, sT] ty #[.slice (some ⟨g, o, none⟩) dLen dCap, .string s]).run P w =
      .ok (goInt (min s.size dLen : Nat)) (w.setRow g (cur.toList.take o ++ Lib.byteCells (s.data.toList.take (min s.size dLen)) ++ cur.toList.drop (o + min s.size dLen)).toArray) := by
  have hlen : (Lib.byteCells (s.data.toList.take (min s.size dLen))).length = min s.size dLen := by rw [Lib.byteCells_length, List.length_take, ← Lib.size_eq]; omega
  have hst := run_storeCells_at P g o t (Lib.byteCells (s.data.toList.take (min s.size dLen))) 0 cur w hg (by rw [hlen]; simpa using hfit) (Lib.byteCells_one _)
  have htk : List.take (min s.size dLen) (List.map (fun b : UInt8 => Value.int IntKind.u8 (b.toNat : Int)) s.data.toList) = Lib.byteCells (s.data.toList.take (min s.size dLen)) := by
    rw [← List.map_take]; rfl
  have hmin : Nat.min s.size dLen = min s.size dLen := rfl
  rw [hlen] at hst
  simp only [Nat.add_zero] at hst
  cases hq : P.info? elem with
  | none => simp [hq] at hs
  | some i =>
    simp [Builtin.copy_, run_underlying hu, Builtin.lenOf, Builtin.firstCells, sizeOf, typeInfo, hq, hmin]
    rw [htk, hst]
    simp [Result.andThen]
theorem step_copy_str {P : Program} {ops : Array Oper} {o : Oper} {a : Act} {w : World} {K : Act → World → Prop} {Q : Exit → Act → World → Prop} {E : Prop} (hgd : o.guard = none) (d s : Operand) (dT sT : TypeId)
    (ho : o.op = .call { callee := .builtin .copy, args := #[d, s], argTypes := #[dT, sT] }) (elem : TypeId) (hu : P.underlying dT = some (.slice elem)) (hsz : (P.info? elem).map (·.size) = some 1)
    (g off dLen dCap : Nat) (hd : a.eval d = .slice (some ⟨g, off, none⟩) dLen dCap) (str : ByteArray) (hs : a.eval s = .string str)
    (cur : Array Value) (t : TypeId) (hg : w.heap[g]? = some (.cells cur t (0, 0))) (hfit : off + min str.size dLen ≤ cur.size)
    (h : ∀ w', Hid (w'.heap[g]? = some (.cells (cur.toList.take off ++ Lib.byteCells (str.data.toList.take (min str.size dLen)) ++ cur.toList.drop (off + min str.size dLen)).toArray t (0, 0))) → Hid (Chg g w w') → K (a.put o.dst (goInt (min str.size dLen : Nat))) w') :
    if Region.wanted o (yielded ops a.tmps) = true then Oper.wp P o a w K Q else E := by
  have hw : Region.wanted o (yielded ops a.tmps) = true := by simp [Region.wanted, hgd]
  rw [if_pos hw]
  have hrun := run_copy_str (P := P) w dT sT o.type elem g off dLen dCap str cur t hu hsz hg hfit
  unfold Oper.wp
  simp only [execOp, ho, resolve, invoke, builtin, Sem.run_bind, Sem.run_pure, Result.andThen_ok, List.map_toArray, List.map_cons, List.map_nil, hs, hd, hrun]
  exact h _ (setRow_heap w g cur _ t _ hg) ⟨rfl, rfl, rfl, by simp, fun k _ hk => setRow_other w g k _ hk⟩
theorem byteCells_splB (rg : List UInt8) (o : Nat) (cs : List UInt8) : Lib.byteCells (splB rg o cs) = (Lib.byteCells rg).take o ++ Lib.byteCells cs ++ (Lib.byteCells rg).drop (o + cs.length) := by
  unfold splB Lib.byteCells
  rw [List.map_append, List.map_append, List.map_take, List.map_drop, List.append_assoc]
theorem chg_cell {R B i : Nat} {v : Value} {w w' : World} (h : Chg R w w') (hc : w.cell? ⟨B, i, none⟩ = some v) (hne : B ≠ R) : w'.cell? ⟨B, i, none⟩ = some v :=
  (World.cell?_of_block (a := ⟨B, i, none⟩) (h.block B (block_lt_of_cell hc) hne)).trans hc
theorem Chg.drew0 {B : Nat} {w w' : World} (h : Chg B w.drew w') : Chg B w w' := ⟨h.os, h.tape, h.output, h.size, h.block⟩
theorem ext_drop (s : ByteArray) (m : Nat) : (s.extract m s.size).data.toList = s.data.toList.drop m := by
  rw [ByteArray.data_extract, Array.toList_extract, List.extract_eq_take_drop]
  exact List.take_of_length_le (by rw [List.length_drop, Array.length_toList]; exact Nat.le_refl _)
/-- Block R holds the bytes rg. -/
def RingAt (R : Nat) (rg : List UInt8) (w : World) : Prop := w.heap[R]? = some (.cells (Lib.byteCells rg).toArray 5 (0, 0))
set_option maxRecDepth 100000 in
set_option maxHeartbeats 1000000 in
theorem fill_any (B R : Nat) (rg : List UInt8) (k : Nat) (s : ByteArray) (w : World) (hB : w.cell? ⟨B, 0, none⟩ = some (.slice (some ⟨R, 0, none⟩) rg.length rg.length)) (hR : RingAt R rg w) (hne : B ≠ R) (h1 : 1 ≤ rg.length) (hn : rg.length ≤ 8192)
    (hs : s.size ≤ rg.length) (hk : k ≤ 4611686018427387904) :
    Calls Try.prog 37 #[.pointer (some ⟨B, 0, none⟩), .int .i64 k, .string s] w fun e w' => e = .returned (.tuple #[]) ∧ RingAt R (fillB rg k s.data.toList) w' ∧ Chg R w w' := by
  obtain ⟨n, hln⟩ : ∃ n, n = rg.length := ⟨_, rfl⟩
  rw [← hln] at hB h1 hn hs
  have hlt : k % n < n := Nat.mod_lt _ (by omega)
  have hmod : (k : Int).tmod (n : Int) = ((k % n : Nat) : Int) := by rw [Int.tmod_eq_emod_of_nonneg (by omega)]; rfl
  have HLN := Lib.hid hln
  clear hln
  generalize hko : k % n = o at *
  have HKO := Lib.hid hko
  clear hko
  have hno : n ≠ o := by omega
  have HR := Lib.hid hR
  clear hR
  have hcn : (Lib.byteCells rg).toArray.size = n := by rw [List.size_toArray, Lib.byteCells_length]; exact HLN.out.symm
  have HCN := Lib.hid hcn
  clear hcn
  have hz : n ≠ 0 := by omega
  have hle : o ≤ n := by omega
  go_enter Try.func37, Try.ntmps37
  go_wp2_with fail
  go_region_law (refine step_copy_str rfl _ _ _ _ rfl 5 Try.underlying22 (by kernel_rfl) R o (n - o) (n - o) (by simp [Act.eval, Act.put]) s (by simp [Act.eval, Act.put]) _ _ HR.out (by rw [HCN.out]; omega) ?_; intro w1 hr1 hc1; have hB1 := chg_cell hc1.out (show w.drew.cell? _ = _ from hB) hne)
  all_goals
    obtain ⟨m, hm⟩ : ∃ m, m = min s.size (n - o) := ⟨_, rfl⟩
    have hr2 : RingAt R (splB rg o (s.data.toList.take m)) w1 := by
      have h := hr1.out
      unfold RingAt
      rw [byteCells_splB, List.length_take, ← Lib.size_eq, show min m s.size = m by omega]
      rw [← hm] at h
      exact h
    rw [← hm]
    clear hr1 HR HCN
    have HM := Lib.hid hm
    have HR2 := Lib.hid hr2
    have hms : m ≤ s.size := by omega
    have hrl : (Lib.byteCells (splB rg o (s.data.toList.take m))).toArray.size = n := by rw [List.size_toArray, Lib.byteCells_length, length_splB _ _ _ (by rw [List.length_take, ← HLN.out]; omega)]; exact HLN.out.symm
    have HRL := Lib.hid hrl
    clear hrl
    clear hm hr2
    go_wp2_with fail
    go_region_law (refine step_copy_str rfl _ _ _ _ rfl 5 Try.underlying22 (by kernel_rfl) R 0 n n (by simp [Act.eval]) (s.extract m s.size) (by simp [Act.eval]) _ _ HR2.out (by rw [HRL.out]; omega) ?_; intro w2 hr3 hc3)
    refine bodyPost_end (results_none rfl _ _ _) rfl ⟨rfl, ?_, hc1.out.drew0.trans hc3.out.drew0⟩
    have h := hr3.out
    rw [ext_drop, show min (s.extract m s.size).size n = (s.data.toList.drop m).length by rw [ByteArray.size_extract, List.length_drop, ← Lib.size_eq]; omega, List.take_length] at h
    unfold RingAt fillB
    rw [← HLN.out, HKO.out, byteCells_splB, ← Lib.size_eq, ← HM.out]
    exact h
end Go.Proofs.Ytfeppkgcimgkeaa
