/- segment.Len; acknowledgements encoded and decoded; RTOFromSegments in plain terms. -/
import Derived.Test.YtncjeleabpodaaaSgDec
import Derived.Test.YtncjeleabpodaaaSeq
import Derived.Test.YtncjeleabpodaaaRtoEx
import Derived.Test.YtncjeleabpodaaaPairs
import Derived.Laws.MakeOwn
import Derived.Laws.IdiomStrings
import Derived.Deep.RegionHeld3
namespace Go.Proofs.Ytncjeleabpodaaa
open Go.RowKit
set_option maxHeartbeats 1000000 in
theorem seglen_any (g : Sg) (a : Option Addr) (cap : Nat) (S : ByteArray) (w : World) (h1 : g.syn = false) (h2 : g.fin = false) :
    Calls Try.prog 14 #[.agg #[.int .i64 g.fp, .int .i64 g.tp, .int .i64 g.sq, .int .i64 g.ak, .bool g.syn, .bool g.fin, .bool g.rst, .bool g.has, .int .i64 g.win, .int .i64 g.mss, .bool g.sacks, .slice a g.bl.length cap, .string S]] w fun e w' => e = .returned (.int .i64 (S.size : Int)) ∧ Below w.heap.size w w' := by
  obtain ⟨fp, tp, sq, ak, syn, fin, rst, has, win, mss, sacks, bl, s⟩ := g
  dsimp only at h1 h2 ⊢
  subst h1
  subst h2
  have HB := Lib.hid (sgBelow w (.cells #[.int .i64 fp, .int .i64 tp, .int .i64 sq, .int .i64 ak, .bool false, .bool false, .bool rst, .bool has, .int .i64 win, .int .i64 mss, .bool sacks, .slice a bl.length cap, .string S] 31))
  go_enter Try.func14, Try.ntmps14
  go_wp2_with fail
  go_ret
  exact ⟨rfl, HB.out⟩
/-- An acknowledgement alone. -/
def ackSg (x : Int) : Sg := ⟨2, 1, 0, x, false, false, false, true, 0, 0, false, [], []⟩
theorem ackSg_ok {x : Int} (h1 : 0 ≤ x) (h2 : x ≤ 4294967295) : (ackSg x).Ok := by
  refine ⟨by simp [ackSg], by simp [ackSg], by simp [ackSg], ⟨h1, h2⟩, by simp [ackSg], by simp [ackSg], by simp [ackSg], by simp [ackSg], by simp [ackSg], by simp [ackSg], by simp [ackSg], by simp [ackSg], by simp [ackSg], by simp [ackSg]⟩
theorem ack_enc (x : Int) (h1 : 0 ≤ x) (h2 : x ≤ 4294967295) (W : World) :
    Calls Try.prog 17 #[.int .i64 2, .int .i64 1, .agg #[.int .i64 2, .int .i64 1, .int .i64 0, .int .i64 x, .bool false, .bool false, .bool false, .bool true, .int .i64 0, .int .i64 0, .bool false, .slice none 0 0, .string ⟨#[]⟩]] W fun e w' => e = .returned (.tuple #[.string ⟨((ackSg x).encL 2 1).toArray⟩, .int .i64 0]) ∧ Below W.heap.size W w' :=
  segenc_any 2 1 (ackSg x) 0 none 0 ⟨#[]⟩ W (by omega) (by omega) (ackSg_ok h1 h2) rfl ⟨by simp [ackSg], fun h => absurd h (by simp [ackSg])⟩ (Nat.zero_le _)
theorem ack_dec (x : Int) (h1 : 0 ≤ x) (h2 : x ≤ 4294967295) (t : ByteArray) (ht : t = ⟨((ackSg x).encL 2 1).toArray⟩) (W : World) :
    Calls Try.prog 18 #[.int .i64 2, .int .i64 1, .string t] W fun e w' => ∃ a cap S, e = .returned (.tuple #[.agg #[.int .i64 2, .int .i64 1, .int .i64 0, .int .i64 x, .bool false, .bool false, .bool false, .bool true, .int .i64 0, .int .i64 0, .bool false, .slice a 0 cap, .string S], .int .i64 0]) ∧ Below W.heap.size W w' :=
  (segdec_any 2 1 (ackSg x) t W (by omega) (by omega) (ackSg_ok h1 h2) ht).mono (by rintro e w' ⟨a, cap, S, he, -, -, hb⟩; exact ⟨a, cap, S, he, hb⟩)
/-- The timer, the tick and the offset after i rounds. -/
def rsW (zs : Nat → Int × Int) : Nat → Tm × Int × Int
  | 0 => (tm0, 0, 0)
  | i + 1 => (((rsW zs i).1.sent (rsW zs i).2.1 ((rsW zs i).2.2 + (zs i).1)).acked ((rsW zs i).2.1 + (zs i).2) ((rsW zs i).2.2 + (zs i).1), (rsW zs i).2.1 + (zs i).2, (rsW zs i).2.2 + (zs i).1)
theorem rsW_bd (zs : Nat → Int × Int) (n : Nat) (h : ∀ i, i < n → (0 ≤ (zs i).1 ∧ (zs i).1 ≤ 255) ∧ 0 ≤ (zs i).2 ∧ (zs i).2 ≤ 255) : ∀ k, k ≤ n → 0 ≤ (rsW zs k).2.1 ∧ (rsW zs k).2.1 ≤ 255 * k ∧ 0 ≤ (rsW zs k).2.2 ∧ (rsW zs k).2.2 ≤ 255 * k
  | 0, _ => by simp [rsW]
  | k + 1, hk => by
    obtain ⟨a, b, c, d⟩ := rsW_bd zs n h k (by omega)
    obtain ⟨e, f⟩ := h k (by omega)
    show 0 ≤ (rsW zs k).2.1 + (zs k).2 ∧ (rsW zs k).2.1 + (zs k).2 ≤ 255 * ((k + 1 : Nat) : Int) ∧ 0 ≤ (rsW zs k).2.2 + (zs k).1 ∧ (rsW zs k).2.2 + (zs k).1 ≤ 255 * ((k + 1 : Nat) : Int)
    omega
theorem rsW_fit (zs : Nat → Int × Int) (n : Nat) (hn : n ≤ 30) (h : ∀ i, i < n → (0 ≤ (zs i).1 ∧ (zs i).1 ≤ 255) ∧ 0 ≤ (zs i).2 ∧ (zs i).2 ≤ 255) : ∀ k, k ≤ n → (rsW zs k).1.Fit
  | 0, _ => tm0_fit
  | k + 1, hk => by
    obtain ⟨a, b, _, _⟩ := rsW_bd zs n h k (by omega)
    exact Tm.acked_fit (Tm.sent_fit (rsW_fit zs n hn h k (by omega)) _ _ (by unfold In64; omega)) _ _
theorem addV_bd (a n : Int) : 0 ≤ addV a n ∧ addV a n ≤ 4294967295 := by unfold addV; omega
theorem diff_add2 (p o n : Int) (h1 : 0 ≤ o + n) (h2 : o + n < 2147483648) : diffV (addV (addV p o) n) p = o + n := by unfold diffV addV; omega
theorem len_data (q : Int) (zb : ByteArray) (W : World) :
    Calls Try.prog 14 #[.agg #[.int .i64 1, .int .i64 2, .int .i64 q, .int .i64 0, .bool false, .bool false, .bool false, .bool false, .int .i64 0, .int .i64 0, .bool false, .slice none 0 0, .string zb]] W fun e w' => e = .returned (.int .i64 (zb.size : Int)) ∧ Below W.heap.size W w' :=
  seglen_any ⟨1, 2, q, 0, false, false, false, false, 0, 0, false, [], []⟩ none 0 zb W rfl rfl
theorem byteInfo : (Try.prog.info? 5).map (fun i => (i.zero, i.size, i.bytes)) = some (some (.int .u8 0), 1, 1) := by kernel_rfl
/-- Block M holds n zero bytes. -/
def ZeroAt (M n : Nat) (W : World) : Prop := W.heap[M]? = some (.cells (Lib.byteCells (List.replicate n 0)).toArray 5 (0, 0))
theorem ZeroAt.below {M n N : Nat} {W W' : World} (h : ZeroAt M n W) (hb : Below N W W') (hM : M < N) : ZeroAt M n W' := (hb.block M hM).trans h
theorem make_zeros (n : Nat) (hn : n ≤ 1000) (W : World) : (Instr.makeSlice 27 (.int .i64 (n : Int)) (.int .i64 (n : Int))).run Try.prog W = .ok (.slice (some ⟨W.heap.size, 0, none⟩) n n) (W.alloc (.cells (Lib.byteCells (List.replicate n 0)).toArray 5)) := by
  obtain ⟨i0, hi, hz0, hz1, hz2⟩ := info_parts byteInfo
  have h := run_make (P := Try.prog) W 27 5 i0 _ Try.underlying27 hi hz0 .i64 .i64 (n : Int) (n : Int) (by omega) (Int.le_refl _) (by rw [hz2]; omega) (by omega)
  have e : madeCells (Value.int .u8 0).cells n = (Lib.byteCells (List.replicate n 0)).toArray := by
    apply Array.toList_inj.1
    apply List.ext_getElem
    · simp [madeCells, Lib.byteCells, Value.cells]
    · intro i h1 h2
      simp [madeCells, Lib.byteCells, Value.cells, Nat.mod_one]
  rw [h, Int.toNat_natCast, hz1, Nat.mul_one, e]
theorem zero_conv {W : World} {M n : Nat} (h : ZeroAt M n W) : (convert 27 9 (.slice (some ⟨M, 0, none⟩) n n)).run Try.prog W = .ok (.string ⟨(List.replicate n 0).toArray⟩) W := by
  have := run_convert_bytes_back (P := Try.prog) W 27 9 5 ⟨M, 0, none⟩ n (List.replicate n 0) Try.underlying27 Try.underlying5 Try.underlying9 (fun j hj => by
    rw [Addr.add_lit, Nat.zero_add, cell_of_row _ _ _ _ _ _ h]
    have hj2 : j < n := by simpa using hj
    simp [Lib.byteCells, hj2])
  rwa [List.length_replicate] at this
/-- A region's walk under a stronger condition. -/
theorem wpAnyH_switch {P : Program} {md : Region.Mode} {ops : Array Oper} {Q : Exit → Act → World → Prop} {S S' : World → Prop} (h : ∀ w, S' w → S w) :
    ∀ (fuel : Nat) (listed : Array Bool) (a : Act) (w : World), wpAnyH P md ops Q S' fuel listed a w → wpAnyH P md ops Q S fuel listed a w
  | 0, _, _, _, hh => hh
  | _ + 1, _, _, _, hh => ⟨hh.1, fun i hi => wpOp_mono (fun _ _ ⟨hs, hw⟩ => ⟨h _ hs, wpAnyH_switch h _ _ _ _ hw⟩) (hh.2 i hi)⟩
end Go.Proofs.Ytncjeleabpodaaa
