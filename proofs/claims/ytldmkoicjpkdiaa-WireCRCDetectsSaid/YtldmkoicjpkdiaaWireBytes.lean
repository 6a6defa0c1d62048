/- A row of bytes in a block: read, written, exchanged, made a string. -/
import Derived.Test.YtldmkoicjpkdiaaWirePut
import Derived.Test.YtldmkoicjpkdiaaWireOrdPlain
import Derived.Laws.IdiomStrings
namespace Go.Proofs.Ytldmkoicjpkdiaa
open Go.RowKit
/-- The first cells of block B are the bytes l, and may be written. -/
def Bytes (B : Nat) (l : List UInt8) (w : World) : Prop := ∀ i, i < l.length → w.cell? ⟨B, i, none⟩ = some (.int .u8 ((l.getD i 0).toNat : Int)) ∧ w.frozen? ⟨B, i, none⟩ = false
theorem Bytes.drew {B : Nat} {l : List UInt8} {w : World} (h : Bytes B l w) : Bytes B l w.drew := h
theorem Bytes.below {B : Nat} {l : List UInt8} {w w' : World} (h : Bytes B l w) (hB : B < w.heap.size) (hb : Below w.heap.size w w') : Bytes B l w' := fun i hi =>
  ⟨(hb.cell (p := ⟨B, i, none⟩) hB).trans (h i hi).1, (hb.frozen (p := ⟨B, i, none⟩) hB).trans (h i hi).2⟩
theorem Bytes.set {B : Nat} {l : List UInt8} {w : World} (h : Bytes B l w) (i : Nat) (hi : i < l.length) (c : UInt8) : Bytes B (l.set i c) (w.setCell ⟨B, i, none⟩ (.int .u8 (c.toNat : Int))) := by
  intro j hj
  rw [List.length_set] at hj
  refine ⟨?_, by rw [World.frozen?_setCell]; exact (h j hj).2⟩
  by_cases e : i = j
  · subst e
    rw [getD_set_same _ _ _ hi]
    exact World.cell?_setCell_same' _ _ _ (by rw [(h i hi).1]; rfl)
  · rw [getD_set_other _ _ _ _ e]
    refine Eq.trans ?_ (h j hj).1
    apply World.cell?_setCell_other
    intro hh
    exact e (Addr.mk.inj hh).2.1
theorem Bytes.swap {B : Nat} {l : List UInt8} {w : World} (h : Bytes B l w) (i k : Nat) (hi : i < l.length) (hk : k < l.length) :
    Bytes B (swap l i k) ((w.setCell ⟨B, i, none⟩ (.int .u8 ((l.getD k 0).toNat : Int))).setCell ⟨B, k, none⟩ (.int .u8 ((l.getD i 0).toNat : Int))) :=
  (h.set i hi _).set k (by simpa using hk) _
theorem Bytes.new (w : World) (T : ByteArray) (cap : Nat) (t : TypeId) : Bytes w.heap.size T.data.toList (w.alloc (.cells (bytesRow T cap) t ((bytesRow T cap).size, (bytesRow T cap).size + 1))) := by
  intro i hi
  have hi' : i < T.data.size := by simpa using hi
  have hz : i < (bytesRow T cap).size := by simp only [bytesRow, Array.size_append, Array.size_map]; omega
  have hh := heap_alloc_new w (.cells (bytesRow T cap) t ((bytesRow T cap).size, (bytesRow T cap).size + 1))
  refine ⟨?_, ?_⟩
  · rw [cell_of_row _ _ _ _ _ _ hh]
    unfold bytesRow
    rw [Array.getElem?_append_left (by simpa using hi')]
    simp [List.getD_eq_getElem?_getD]
    rw [Array.getElem?_eq_getElem hi']
    exact ⟨_, rfl, rfl⟩
  · unfold World.frozen?
    rw [hh]
    simp
    omega
theorem Bytes.conv {B : Nat} {l : List UInt8} {w : World} (h : Bytes B l w) (cap n : Nat) (hn : l.length = n) : (convert 34 9 (.slice (some ⟨B, 0, none⟩) n cap)).run Try.prog w = .ok (.string ⟨l.toArray⟩) w := by
  subst hn
  refine run_convert_bytes_back _ _ _ 5 _ _ l Try.underlying34 Try.underlying5 Try.underlying9 fun j hj => ?_
  have e : (⟨B, 0, none⟩ : Addr).add j = ⟨B, j, none⟩ := by unfold Addr.add; split <;> simp_all
  rw [e, (h j hj).1, List.getD_eq_getElem?_getD, List.getElem?_eq_getElem hj]
  rfl
def zeroB (n : Nat) : ByteArray := ⟨(List.replicate n 0).toArray⟩
theorem mkz : ∀ n, n < 9 → ∀ w, (Instr.makeSlice 34 (.int .i64 (n : Nat)) (.int .i64 (n : Nat))).run Try.prog w = .ok (.slice (some ⟨w.heap.size, 0, none⟩) n n) (w.alloc (.cells (byteVals (List.replicate n 0)) 5))
  | 0, _, _ => by kernel_rfl
  | 1, _, _ => by kernel_rfl
  | 2, _, _ => by kernel_rfl
  | 3, _, _ => by kernel_rfl
  | 4, _, _ => by kernel_rfl
  | 5, _, _ => by kernel_rfl
  | 6, _, _ => by kernel_rfl
  | 7, _, _ => by kernel_rfl
  | 8, _, _ => by kernel_rfl
  | n + 9, h, _ => by omega
theorem cvz (W : World) (n : Nat) : (convert 34 9 (.slice (some ⟨W.heap.size, 0, none⟩) n n)).run Try.prog (W.alloc (.cells (byteVals (List.replicate n 0)) 5)) = .ok (.string (zeroB n)) (W.alloc (.cells (byteVals (List.replicate n 0)) 5)) := by
  have h := conv_new W (List.replicate n 0) 5
  rw [List.length_replicate] at h
  exact h
end Go.Proofs.Ytldmkoicjpkdiaa
