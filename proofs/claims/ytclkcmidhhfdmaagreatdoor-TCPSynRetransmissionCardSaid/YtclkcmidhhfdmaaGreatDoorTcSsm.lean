/- stagepostref11.Same at two equal segments. -/
import Derived.Test.YtclkcmidhhfdmaaGreatDoorUb7
import Derived.Deep.LoopGhost
import Derived.BigQuiet
namespace Go.Proofs.YtclkcmidhhfdmaaGreatDoor
open Go.RowKit Go.Shelf
theorem nqBel1 {N : Nat} (w : World) (n : Nat) : Below N w (w.drewN n) :=
  have h := Below.refl N w
  ⟨h.os, h.tape, h.output, h.size, h.block⟩
set_option maxRecDepth 100000 in
set_option maxHeartbeats 8000000 in
theorem same11_any (w : World) (n₀ : Nat) (g : Sg) (a b : Option Addr) (ca cb : Nat) (S : ByteArray) (hA : SpAt w n₀ a g.bl) (hB : SpAt w n₀ b g.bl) (hn : n₀ ≤ w.heap.size) :
    Calls Tryz.prog 20 #[.agg #[.int .i64 g.fp, .int .i64 g.tp, .int .i64 g.sq, .int .i64 g.ak, .bool g.syn, .bool g.fin, .bool g.rst, .bool g.has, .int .i64 g.win, .int .i64 g.mss, .bool g.sacks, .slice a g.bl.length ca, .string S], .agg #[.int .i64 g.fp, .int .i64 g.tp, .int .i64 g.sq, .int .i64 g.ak, .bool g.syn, .bool g.fin, .bool g.rst, .bool g.has, .int .i64 g.win, .int .i64 g.mss, .bool g.sacks, .slice b g.bl.length cb, .string S]] w fun e w' => e = .returned (.bool true) ∧ Below w.heap.size w w' := by
  obtain ⟨fp, tp, sq, ak, syn, fin, rst, has, win, mss, sacks, bl, s⟩ := g
  dsimp only at hA hB ⊢
  have hs := hA.small
  have HB := Lib.hid (((Below.refl w.heap.size w).alloc (Nat.le_refl _) (.cells #[.int .i64 fp, .int .i64 tp, .int .i64 sq, .int .i64 ak, .bool syn, .bool fin, .bool rst, .bool has, .int .i64 win, .int .i64 mss, .bool sacks, .slice a bl.length ca, .string S] 43)).alloc (by simp) (.cells #[.int .i64 fp, .int .i64 tp, .int .i64 sq, .int .i64 ak, .bool syn, .bool fin, .bool rst, .bool has, .int .i64 win, .int .i64 mss, .bool sacks, .slice b bl.length cb, .string S] 43))
  have HSA := Lib.hid (hA.below (HB.out.mono hn))
  have HSB := Lib.hid (hB.below (HB.out.mono hn))
  have HR1 := Lib.hid ((RowB.new w 43 [.int .i64 fp, .int .i64 tp, .int .i64 sq, .int .i64 ak, .bool syn, .bool fin, .bool rst, .bool has, .int .i64 win, .int .i64 mss, .bool sacks, .slice a bl.length ca, .string S]).below ((Below.refl _ _).alloc (Nat.le_refl _) (.cells #[.int .i64 fp, .int .i64 tp, .int .i64 sq, .int .i64 ak, .bool syn, .bool fin, .bool rst, .bool has, .int .i64 win, .int .i64 mss, .bool sacks, .slice b bl.length cb, .string S] 43)))
  have HR2 := Lib.hid (RowB.new (w.alloc (.cells #[.int .i64 fp, .int .i64 tp, .int .i64 sq, .int .i64 ak, .bool syn, .bool fin, .bool rst, .bool has, .int .i64 win, .int .i64 mss, .bool sacks, .slice a bl.length ca, .string S] 43)) 43 [.int .i64 fp, .int .i64 tp, .int .i64 sq, .int .i64 ak, .bool syn, .bool fin, .bool rst, .bool has, .int .i64 win, .int .i64 mss, .bool sacks, .slice b bl.length cb, .string S])
  clear hA hB
  go_enter Tryz.func20, Tryz.ntmps20
  go_upto_region 1 with fail
  change Code.wp _ _ _ _ ((w.alloc (.cells #[.int .i64 fp, .int .i64 tp, .int .i64 sq, .int .i64 ak, .bool syn, .bool fin, .bool rst, .bool has, .int .i64 win, .int .i64 mss, .bool sacks, .slice a bl.length ca, .string S] 43)).alloc (.cells #[.int .i64 fp, .int .i64 tp, .int .i64 sq, .int .i64 ak, .bool syn, .bool fin, .bool rst, .bool has, .int .i64 win, .int .i64 mss, .bool sacks, .slice b bl.length cb, .string S] 43))
  rw [World.size_alloc] at HR2
  generalize ((w.alloc (.cells #[.int .i64 fp, .int .i64 tp, .int .i64 sq, .int .i64 ak, .bool syn, .bool fin, .bool rst, .bool has, .int .i64 win, .int .i64 mss, .bool sacks, .slice a bl.length ca, .string S] 43)).alloc (.cells #[.int .i64 fp, .int .i64 tp, .int .i64 sq, .int .i64 ak, .bool syn, .bool fin, .bool rst, .bool has, .int .i64 win, .int .i64 mss, .bool sacks, .slice b bl.length cb, .string S] 43)) = w1 at HB HSA HSB HR1 HR2 ⊢
  have c11 := HR1.out.cell 11 (.slice a bl.length ca) rfl
  have e11 := HR2.out.cell 11 (.slice b bl.length cb) rfl
  go_wp2_with fail
  go_loopg [5] bl.length (fun g kv wr => ∃ (k : Nat), kv = .int .i64 (k : Int) ∧ g + k = bl.length ∧ Below w1.heap.size w1 wr)
  case atStart => exact ⟨0, rfl, rfl, Below.refl _ _⟩
  case round =>
    obtain ⟨k, rfl, hg, hBl⟩ := hrel
    have HW := Lib.hid hBl
    have HQ1 := Lib.hid (HR1.out.below hBl)
    have HQ2 := Lib.hid (HR2.out.below hBl)
    clear hBl c11 e11
    have c11 := HQ1.out.cell 11 (.slice a bl.length ca) rfl
    have e11 := HQ2.out.cell 11 (.slice b bl.length cb) rfl
    by_cases hk : k < bl.length
    · have hkr : (k : Int) < (bl.length : Int) := by omega
      obtain ⟨ba, oa, rfl, hba, hca⟩ := (HSA.out.below (HW.out.mono (Nat.le_trans hn HB.out.size))).cells (by omega)
      obtain ⟨bb, ob, rfl, hbb, hcb⟩ := (HSB.out.below (HW.out.mono (Nat.le_trans hn HB.out.size))).cells (by omega)
      obtain ⟨d0, d1⟩ := hca k hk
      obtain ⟨e0, e1⟩ := hcb k hk
      clear hca hcb
      go_wp2_with fail
      go_quiet (fail)
      go_wp2_with fail
      go_roundg (gk - 1)
      case measure => omega
      case rel => exact ⟨k + 1, by first | go_num | (have hsm := hs; have e : wrap64 ((k : Int) + 1) = ((k + 1 : Nat) : Int) := (by unfold wrap64; omega); rw [e]), by omega, HW.out.trans (nqBel1 wr nq)⟩
    · have hkr : ¬ (k : Int) < (bl.length : Int) := by omega
      have c0 := HQ1.out.cell 0 (.int .i64 fp) rfl
      have e0 := HQ2.out.cell 0 (.int .i64 fp) rfl
      have c1 := HQ1.out.cell 1 (.int .i64 tp) rfl
      have e1 := HQ2.out.cell 1 (.int .i64 tp) rfl
      have c2 := HQ1.out.cell 2 (.int .i64 sq) rfl
      have e2 := HQ2.out.cell 2 (.int .i64 sq) rfl
      have c3 := HQ1.out.cell 3 (.int .i64 ak) rfl
      have e3 := HQ2.out.cell 3 (.int .i64 ak) rfl
      have c4 := HQ1.out.cell 4 (.bool syn) rfl
      have e4 := HQ2.out.cell 4 (.bool syn) rfl
      have c5 := HQ1.out.cell 5 (.bool fin) rfl
      have e5 := HQ2.out.cell 5 (.bool fin) rfl
      have c6 := HQ1.out.cell 6 (.bool rst) rfl
      have e6 := HQ2.out.cell 6 (.bool rst) rfl
      have c7 := HQ1.out.cell 7 (.bool has) rfl
      have e7 := HQ2.out.cell 7 (.bool has) rfl
      have c8 := HQ1.out.cell 8 (.int .i64 win) rfl
      have e8 := HQ2.out.cell 8 (.int .i64 win) rfl
      have c9 := HQ1.out.cell 9 (.int .i64 mss) rfl
      have e9 := HQ2.out.cell 9 (.int .i64 mss) rfl
      have c10 := HQ1.out.cell 10 (.bool sacks) rfl
      have e10 := HQ2.out.cell 10 (.bool sacks) rfl
      have c12 := HQ1.out.cell 12 (.string S) rfl
      have e12 := HQ2.out.cell 12 (.string S) rfl
      go_wp2_with fail
      go_ret
      exact ⟨rfl, HB.out.trans (HW.out.mono HB.out.size)⟩
end Go.Proofs.YtclkcmidhhfdmaaGreatDoor
