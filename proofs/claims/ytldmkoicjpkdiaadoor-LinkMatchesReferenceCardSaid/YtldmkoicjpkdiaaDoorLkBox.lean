/- A frame in a block of the call's own. -/
import Derived.Test.YtldmkoicjpkdiaaDoorLkPick
namespace Go.Proofs.YtldmkoicjpkdiaaDoor
open Go.RowKit
structure Box (G : Nat) (t f k : Int) (s : ByteArray) (w : World) : Prop where
  c0 : w.cell? ⟨G, 0, none⟩ = some (.int .i64 t)
  c1 : w.cell? ⟨G, 1, none⟩ = some (.int .i64 f)
  c2 : w.cell? ⟨G, 2, none⟩ = some (.int .i64 k)
  c3 : w.cell? ⟨G, 3, none⟩ = some (.string s)
  lt : G < w.heap.size
theorem Box.new (w : World) (t f k : Int) (s : ByteArray) (T : TypeId) : Box w.heap.size t f k s (w.alloc (.cells #[.int .i64 t, .int .i64 f, .int .i64 k, .string s] T)) := by
  have hx : ∀ i v, (#[.int .i64 t, .int .i64 f, .int .i64 k, .string s] : Array Value)[i]? = some v → (w.alloc (.cells #[.int .i64 t, .int .i64 f, .int .i64 k, .string s] T)).cell? ⟨w.heap.size, i, none⟩ = some v := by
    intro i v hv
    rw [cell_of_row _ _ _ _ _ _ (heap_alloc_new _ _)]
    exact hv
  exact ⟨hx 0 _ rfl, hx 1 _ rfl, hx 2 _ rfl, hx 3 _ rfl, by simp⟩
theorem Box.below {G : Nat} {t f k : Int} {s : ByteArray} {w w' : World} (h : Box G t f k s w) (hb : Below w.heap.size w w') : Box G t f k s w' :=
  ⟨(hb.cell (p := ⟨G, 0, none⟩) h.lt).trans h.c0, (hb.cell (p := ⟨G, 1, none⟩) h.lt).trans h.c1, (hb.cell (p := ⟨G, 2, none⟩) h.lt).trans h.c2, (hb.cell (p := ⟨G, 3, none⟩) h.lt).trans h.c3, Nat.lt_of_lt_of_le h.lt hb.size⟩
theorem new_below (w : World) (o : Obj) : Below w.heap.size w (w.alloc o) := (Below.refl _ _).alloc (Nat.le_refl _) o
theorem frame_ok (t f k : Int) (s : ByteArray) : Fr.okB ⟨frT t, frF f, frK k, (cutS s 1000).data.toList⟩ = true := by
  rw [Fr.okB_iff]
  obtain ⟨a1, a2⟩ := pickV_bd t 65535 (by omega)
  obtain ⟨b1, b2⟩ := pickV_bd f 65534 (by omega)
  obtain ⟨c1, c2⟩ := pickV_bd k 2 (by omega)
  have h : (cutS s 1000).data.toList.length = (cutS s 1000).size := by rw [Array.length_toList]; rfl
  have h2 := cutS_size s 1000
  unfold frT frF frK
  refine ⟨by show 1 ≤ 1 + pickV t 65535; omega, by show 1 + pickV t 65535 ≤ 65535; omega, by show 1 ≤ 1 + pickV f 65534; omega, by show 1 + pickV f 65534 ≤ 65534; omega, by show 1 + pickV k 2 = 1 ∨ 1 + pickV k 2 = 2; omega, ?_⟩
  show (cutS s 1000).data.toList.length ≤ 1024
  rw [h]
  exact Nat.le_trans h2 (by omega)
theorem ba_same {l : List UInt8} {S : ByteArray} (h : l = S.data.toList) : (⟨l.toArray⟩ : ByteArray) = S := by
  subst h; rfl
end Go.Proofs.YtldmkoicjpkdiaaDoor
