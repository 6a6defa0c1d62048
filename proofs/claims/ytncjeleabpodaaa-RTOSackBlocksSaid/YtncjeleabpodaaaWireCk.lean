/- wire.Checksum: at every string (of at most 2^40 bytes) the checksum of its bytes. -/
import Derived.Test.YtncjeleabpodaaaWireSum
import Derived.Laws.Rows
namespace Go.Proofs.Ytncjeleabpodaaa
open Go.RowKit Go.Shelf
attribute [local go_sem] Oper.semAt_some
set_option maxHeartbeats 400000 in
theorem words_in (F : Fence) (n : Nat) (h : F.fn 87) (hro : F.round = none) (s : ByteArray) (w : World) :
    CallsIn F n Try.prog 87 #[.string s] w fun e w' => e = .returned (.func (.func 106) #[] #[.pointer (some ⟨w.heap.size, 0, none⟩)]) ∧ w' = w.alloc (.cells #[.string s] 9) := by
  refine callsIn_of_wp Try.func87 rfl h ?_ hro
  simp only [Try.ntmps87, List.size_toArray, List.length_cons, List.length_nil, Nat.reduceAdd, Nat.reduceSub, Array.replicate_succ, Array.replicate_zero, List.push_toArray, List.append_toArray, List.nil_append, List.cons_append]
  gi_wp2
  go_ret
  exact ⟨rfl, rfl⟩
theorem ret_ck {a b : Int} (h : a = b) : Ending.returned (.int .i64 a) = .returned (.int .i64 b) := by rw [h]
/-- The sum's box holds x. -/
def SumAt (B x : Nat) (W : World) : Prop := W.cell? ⟨B, 0, none⟩ = some (.int .i64 (x : Int)) ∧ W.frozen? ⟨B, 0, none⟩ = false
def ckLeft (B : Nat) (W : World) : Nat := match W.cell? ⟨B, 0, none⟩ with | some v => (intOf v).toNat | none => 0
theorem ckLeft_eq {B x : Nat} {W : World} (h : SumAt B x W) : ckLeft B W = x := by unfold ckLeft; rw [h.1]; simp [intOf]
theorem SumAt.set {B c : Nat} {w : World} (h : SumAt B c w) (x : Nat) : SumAt B x (w.setCell ⟨B, 0, none⟩ (.int .i64 (x : Int))) :=
  ⟨World.cell?_setCell_same' _ _ _ (by rw [h.1]; rfl), by rw [World.frozen?_setCell]; exact h.2⟩
theorem newCell (w : World) (v : Value) (t : TypeId) : (w.alloc (.cells #[v] t)).cell? ⟨w.heap.size, 0, none⟩ = some v ∧ (w.alloc (.cells #[v] t)).frozen? ⟨w.heap.size, 0, none⟩ = false :=
  ⟨by rw [cell_of_row _ _ _ _ _ _ (heap_alloc_new _ _)]; rfl, frozen_of_row _ _ _ _ _ (heap_alloc_new _ _)⟩
set_option maxRecDepth 100000 in
set_option maxHeartbeats 2000000 in
theorem checksum_in (F : Fence) (n : Nat) (h3 : F.fn 48) (h5 : F.fn 87) (h6 : F.fn 106) (hro : F.round = none) (hn : 3 ≤ n) (s : ByteArray) (hs : s.size ≤ 1099511627776) (w : World) :
    CallsIn F n Try.prog 48 #[.string s] w fun e W' => e = .returned (.int .i64 (cksum s.data.toList : Nat)) ∧ Below w.heap.size w W' := by
  have h1 : 1 ≤ n := by omega
  refine callsIn_of_wp_marks Try.func48 rfl h3 ?_ hro
  simp only [Try.ntmps48, List.size_toArray, List.length_cons, List.length_nil, Nat.reduceAdd, Nat.reduceSub, Array.replicate_succ, Array.replicate_zero, List.push_toArray, List.append_toArray, List.nil_append, List.cons_append]
  gi_wp2_with (gi_at_call 87; refine (words_in F (n - 1) h5 hro _ _).mono ?_; rintro e w' ⟨rfl, rfl⟩)
  have hs0 := newCell w (.int .i64 0) 3
  have hb := newCell (w.alloc (.cells #[.int .i64 0] 3)) (.string s) 9
  rw [World.size_alloc] at hb
  have hB0 : Below w.heap.size w ((w.alloc (.cells #[.int .i64 0] 3)).alloc (.cells #[.string s] 9)) := ((Below.refl _ w).alloc (Nat.le_refl _) _).alloc (by simp) _
  have hs1 : SumAt w.heap.size 0 ((w.alloc (.cells #[.int .i64 0] 3)).alloc (.cells #[.string s] 9)) :=
    ⟨(((Below.refl _ _).alloc (Nat.le_refl _) _).cell (p := ⟨w.heap.size, 0, none⟩) (by simp)).trans hs0.1, (((Below.refl _ _).alloc (Nat.le_refl _) _).frozen (p := ⟨w.heap.size, 0, none⟩) (by simp)).trans hs0.2⟩
  refine wpIn_rangeFunc_ownF hro h1 (gf := 106) (lb := #[.pointer (some ⟨w.heap.size + 1, 0, none⟩)]) rfl h6 (enters_of Try.func106 (by kernel_rfl) rfl)
    (α := Fin 65536) (encs := fun x => #[.int .i64 (x.val : Int)]) (Kp := fun W W' => W'.cell? ⟨w.heap.size + 1, 0, none⟩ = W.cell? ⟨w.heap.size + 1, 0, none⟩) (S := fun ys => ys = wordsTo s.data.toList ((s.size + 1) / 2)) (Sp := fun _ => True) (N := (s.size + 1) / 2)
    (fun l J Jx W hW hJ hJx hY h0 => words1_in F (n - 1) h6 hro (by omega) l (w.heap.size + 1) s hs J Jx hY W ((hW.cell (p := ⟨w.heap.size + 1, 0, none⟩) (by simp)).trans hb.1) h0)
    (fun h k => k.trans h) (fun W l o o' hl ho hc _ => World.cell?_of_block (World.putObj_heap_other (by simp at hl ⊢; omega))) (Below.refl _ _) (fun _ => rfl)
    (fun pre W => SumAt w.heap.size (sumF pre) W ∧ Below w.heap.size w W)
    (fun _ _ _ => False)
    (OwnFrom.and (Own.from (fun s A B row hs hg hr => ⟨cell_kept hs.1 hg hr, (frozen_kept hs.1 hg hr).trans hs.2⟩) _) (ownFrom_below (Nat.le_refl _) (by simp; omega)))
    (fun _ _ _ _ _ hs _ _ => hs)
    ⟨hs1, hB0⟩
    (fun x => { tmps := #[.string s, undef, .int .i64 0, .pointer (some ⟨w.heap.size, 0, none⟩), .int .i64 (x.val : Int), .string s, .func (.func 106) #[] #[.pointer (some ⟨w.heap.size + 1, 0, none⟩)], .int .i64 (x.val : Int), undef, undef, undef, undef, undef, undef, undef, undef, undef, undef, undef, undef], defers := [] }) ?assign ?body ?done ?stop
  case assign =>
    intro l x W K hK
    gi_wp2
    exact hK
  case body =>
    rintro l pre x W ⟨⟨hc, hf⟩, hB⟩ hlen
    have hle := sumF_le pre
    have hx := x.isLt
    gi_wp2
    have hset := SumAt.set ⟨hc, hf⟩ (sumF pre + x.val)
    rw [Int.natCast_add] at hset
    refine ⟨KeepsOthers.setCell _ _ _, World.cell?_of_block (heap_setCell_other _ _ _ _ (by simp)), ⟨?_, hB.setCell (p := ⟨w.heap.size, 0, none⟩) (Nat.le_refl _) _⟩⟩
    rw [sumF_snoc]
    exact hset
  case done =>
    rintro D ys W hD rfl ⟨hS, hB⟩ hK
    have hle := sumF_le (wordsTo s.data.toList ((s.size + 1) / 2))
    rw [wordsTo_length] at hle
    have HF := Lib.hid (show fold16 (sumF (wordsTo s.data.toList ((s.size + 1) / 2))) = fold16 (sum16 s.data.toList) by unfold sum16; rw [Array.length_toList]; rfl)
    obtain ⟨x0, hx0⟩ : ∃ x0, sumF (wordsTo s.data.toList ((s.size + 1) / 2)) = x0 := ⟨_, rfl⟩
    rw [hx0] at hle hS HF
    clear hx0
    simp only [World.size_alloc] at hD
    gi_wp2
    gi_loopw [11] (fun _ wr => ∃ x : Nat, SumAt w.heap.size x wr ∧ fold16 x = fold16 (sum16 s.data.toList) ∧ x ≤ 65535 * ((s.size + 1) / 2) ∧ Below w.heap.size w wr ∧ wr.heap[D]? = some (.deferred (some [])))
      (fun _ wr => ckLeft w.heap.size wr)
    case atStart => exact ⟨x0, hS, HF.out, hle, hB, hK⟩
    case round =>
      clear hS HF hle hB hK
      obtain ⟨x, hS, hF, hle, hB, hK⟩ := hrel
      have HF := Lib.hid hF
      have HK := Lib.hid hK
      have HS := Lib.hid hS
      obtain ⟨hc, hf⟩ := hS
      clear hF hK
      by_cases hgt : 65535 < x
      · gi_wp2
        have hset := HS.out.set (x % 65536 + x / 65536)
        rw [Int.natCast_add, Int.natCast_emod, Int.natCast_ediv, show ((65536 : Nat) : Int) = 65536 from rfl] at hset
        go_roundw
        case rel => exact ⟨x % 65536 + x / 65536, hset, by rw [fold16_step x hgt]; exact HF.out, by omega, hB.setCell (p := ⟨w.heap.size, 0, none⟩) (Nat.le_refl _) _, (KeepsOthers.setCell _ _ _).same D _ HK.out rfl⟩
        case measure => rw [ckLeft_eq hset, ckLeft_eq HS.out]; omega
      · gi_wp2
        refine ⟨by simp, .inl ⟨_, _, rfl, run_takeDeferred HK.out, ?_⟩⟩
        refine ⟨_, results_tmp (t := 2) rfl _ _ _, ret_ck (a := 65535 - (x : Int)) ?_, hB.trans (belowK_b (w := w) (Nat.le_refl _) _ D _ _ (by omega) HK.out rfl rfl)⟩
        have h1 := HF.out
        rw [fold16_small x (by omega)] at h1
        unfold cksum
        rw [← h1]
        omega
  case stop =>
    rintro D c pre W _ _ h _
    exact h.elim
theorem checksum_any (s : ByteArray) (hs : s.size ≤ 1099511627776) (w : World) :
    Calls Try.prog 48 #[.string s] w fun e W' => e = .returned (.int .i64 (cksum s.data.toList : Nat)) ∧ Below w.heap.size w W' :=
  (callsIn_wide (n := 3)).1 (checksum_in Fence.wide 3 trivial trivial trivial rfl (Nat.le_refl _) s hs w)
end Go.Proofs.Ytncjeleabpodaaa
