/- segment.Valid, at valid segments. -/
import Derived.Test.YtncjeleabpodaaaSgPut
import Derived.Test.YtncjeleabpodaaaRgLaw
import Derived.Deep.RegionHeld3
namespace Go.Proofs.Ytncjeleabpodaaa
open Go.RowKit
theorem isPort_yes (n : Int) (w : World) (h : 1 ≤ n ∧ n ≤ 65535) : Calls Try.prog 102 #[.int .i64 n] w fun e w' => e = .returned (.bool true) ∧ w = w' := by
  obtain ⟨h1, h2⟩ := h
  go_enter Try.func102, Try.ntmps102
  go_wp2
  go_ret
  exact ⟨rfl, rfl⟩
theorem seqValid_yes (n : Int) (w : World) (h : 0 ≤ n ∧ n ≤ 4294967295) : Calls Try.prog 103 #[.int .i64 n] w fun e w' => e = .returned (.bool true) ∧ w = w' := by
  obtain ⟨h1, h2⟩ := h
  go_enter Try.func103, Try.ntmps103
  go_wp2
  go_ret
  exact ⟨rfl, rfl⟩
theorem addrValid_yes (n : Int) (w : World) (h : 0 ≤ n ∧ n ≤ 4294967295) : Calls Try.prog 45 #[.int .i64 n] w fun e w' => e = .returned (.bool true) ∧ w = w' := by
  obtain ⟨h1, h2⟩ := h
  go_enter Try.func45, Try.ntmps45
  go_wp2
  go_ret
  exact ⟨rfl, rfl⟩
/-- Block B holds the segment g. -/
def SgAt (B : Nat) (g : Sg) (a : Option Addr) (cap : Nat) (S : ByteArray) (W : World) : Prop := W.heap[B]? = some (.cells #[.int .i64 g.fp, .int .i64 g.tp, .int .i64 g.sq, .int .i64 g.ak, .bool g.syn, .bool g.fin, .bool g.rst, .bool g.has, .int .i64 g.win, .int .i64 g.mss, .bool g.sacks, .slice a g.bl.length cap, .string S] 31 (0, 0))
theorem SgAt.new (w : World) (g : Sg) (a : Option Addr) (cap : Nat) (S : ByteArray) : SgAt w.heap.size g a cap S (w.alloc (.cells #[.int .i64 g.fp, .int .i64 g.tp, .int .i64 g.sq, .int .i64 g.ak, .bool g.syn, .bool g.fin, .bool g.rst, .bool g.has, .int .i64 g.win, .int .i64 g.mss, .bool g.sacks, .slice a g.bl.length cap, .string S] 31)) := heap_alloc_new _ _
theorem SgAt.lt {B : Nat} {g : Sg} {a : Option Addr} {cap : Nat} {S : ByteArray} {W : World} (h : SgAt B g a cap S W) : B < W.heap.size := (Array.getElem?_eq_some_iff.1 h).1
theorem SgAt.below {B N : Nat} {g : Sg} {a : Option Addr} {cap : Nat} {S : ByteArray} {W W' : World} (h : SgAt B g a cap S W) (hb : Below N W W') (hB : B < N) : SgAt B g a cap S W' := (hb.block B hB).trans h
theorem SgAt.cells {B : Nat} {g : Sg} {a : Option Addr} {cap : Nat} {S : ByteArray} {W : World} (h : SgAt B g a cap S W) :
    W.cell? ⟨B, 0, none⟩ = some (.int .i64 g.fp) ∧ W.cell? ⟨B, 1, none⟩ = some (.int .i64 g.tp) ∧ W.cell? ⟨B, 2, none⟩ = some (.int .i64 g.sq) ∧ W.cell? ⟨B, 3, none⟩ = some (.int .i64 g.ak) ∧ W.cell? ⟨B, 4, none⟩ = some (.bool g.syn) ∧ W.cell? ⟨B, 5, none⟩ = some (.bool g.fin) ∧ W.cell? ⟨B, 6, none⟩ = some (.bool g.rst) ∧ W.cell? ⟨B, 7, none⟩ = some (.bool g.has) ∧ W.cell? ⟨B, 8, none⟩ = some (.int .i64 g.win) ∧ W.cell? ⟨B, 9, none⟩ = some (.int .i64 g.mss) ∧ W.cell? ⟨B, 10, none⟩ = some (.bool g.sacks) ∧ W.cell? ⟨B, 11, none⟩ = some (.slice a g.bl.length cap) ∧ W.cell? ⟨B, 12, none⟩ = some (.string S) := by
  have c : ∀ i v, (#[.int .i64 g.fp, .int .i64 g.tp, .int .i64 g.sq, .int .i64 g.ak, .bool g.syn, .bool g.fin, .bool g.rst, .bool g.has, .int .i64 g.win, .int .i64 g.mss, .bool g.sacks, .slice a g.bl.length cap, .string S] : Array Value)[i]? = some v → W.cell? ⟨B, i, none⟩ = some v := fun i v hv => by rw [cell_of_row _ _ _ _ _ _ h]; exact hv
  exact ⟨c 0 _ rfl, c 1 _ rfl, c 2 _ rfl, c 3 _ rfl, c 4 _ rfl, c 5 _ rfl, c 6 _ rfl, c 7 _ rfl, c 8 _ rfl, c 9 _ rfl, c 10 _ rfl, c 11 _ rfl, c 12 _ rfl⟩
theorem sgBelow (w : World) (o : Obj) : Below w.heap.size w (w.alloc o) := (Below.refl _ w).alloc (Nat.le_refl _) o
set_option maxRecDepth 100000 in
set_option maxHeartbeats 2000000 in
theorem validNumbers_yes (g : Sg) (a : Option Addr) (cap : Nat) (S : ByteArray) (w : World) (ok : g.Ok) :
    Calls Try.prog 81 #[.agg #[.int .i64 g.fp, .int .i64 g.tp, .int .i64 g.sq, .int .i64 g.ak, .bool g.syn, .bool g.fin, .bool g.rst, .bool g.has, .int .i64 g.win, .int .i64 g.mss, .bool g.sacks, .slice a g.bl.length cap, .string S]] w fun e w' => e = .returned (.bool true) ∧ Below w.heap.size w w' := by
  obtain ⟨fp, tp, sq, ak, syn, fin, rst, has, win, mss, sacks, bl, s⟩ := g
  have HV := Lib.hid ok
  have hw := ok.win
  have hh := ok.has
  clear ok
  dsimp only at hw hh ⊢
  obtain ⟨hw1, hw2⟩ := hw
  have HH := Lib.hid hh
  clear hh
  have HE := Lib.hid (show has = true ∨ (ak == 0) = true by cases has with
    | true => exact .inl rfl
    | false => exact .inr (by rw [beq_iff_eq]; exact HH.out rfl))
  clear HH
  rcases HE.out with rfl | hz
  all_goals
    clear HE
    go_enter Try.func81, Try.ntmps81
    go_wp2_with fail
    refine (isPort_yes _ _ HV.out.fp).mono ?_
    rintro e w9 ⟨rfl, rfl⟩
    go_wp2_with fail
    refine (isPort_yes _ _ HV.out.tp).mono ?_
    rintro e w9 ⟨rfl, rfl⟩
    go_wp2_with fail
    refine (seqValid_yes _ _ HV.out.sq).mono ?_
    rintro e w9 ⟨rfl, rfl⟩
    go_wp2_with fail
    refine (seqValid_yes _ _ HV.out.ak).mono ?_
    rintro e w9 ⟨rfl, rfl⟩
    (first | (cases has <;> go_wp2_with fail) | go_wp2_with fail)
    all_goals
      go_ret
      exact ⟨rfl, sgBelow _ _⟩
set_option maxRecDepth 100000 in
set_option maxHeartbeats 2000000 in
theorem validFlags_yes (g : Sg) (a : Option Addr) (cap : Nat) (S : ByteArray) (w : World) (ok : g.Ok) :
    Calls Try.prog 82 #[.agg #[.int .i64 g.fp, .int .i64 g.tp, .int .i64 g.sq, .int .i64 g.ak, .bool g.syn, .bool g.fin, .bool g.rst, .bool g.has, .int .i64 g.win, .int .i64 g.mss, .bool g.sacks, .slice a g.bl.length cap, .string S]] w fun e w' => e = .returned (.bool true) ∧ Below w.heap.size w w' := by
  obtain ⟨fp, tp, sq, ak, syn, fin, rst, has, win, mss, sacks, bl, s⟩ := g
  have h1 := ok.fl
  have h2 := ok.mss
  have h3 := ok.mssS
  clear ok
  dsimp only at h1 h2 h3 ⊢
  cases syn with
  | false =>
    obtain ⟨hm, rfl⟩ := h2 rfl
    subst hm
    clear h2 h3
    cases fin <;> cases rst
    all_goals (try (exact absurd ⟨rfl, rfl⟩ h1.2.2))
    all_goals
      clear h1
      go_enter Try.func82, Try.ntmps82
      go_wp2_with fail
      go_ret
      exact ⟨rfl, sgBelow _ _⟩
  | true =>
    cases fin with
    | true => exact absurd ⟨rfl, rfl⟩ h1.1
    | false =>
      cases rst with
      | true => exact absurd ⟨rfl, rfl⟩ h1.2.1
      | false =>
        have h := h3 rfl
        clear h1 h2 h3
        rcases h with hz | ⟨hm1, hm2⟩
        · subst hz
          go_enter Try.func82, Try.ntmps82
          go_wp2_with fail
          go_ret
          exact ⟨rfl, sgBelow _ _⟩
        · have hz : (mss == 0) = false := beq_eq_false_iff_ne.2 (by omega)
          go_enter Try.func82, Try.ntmps82
          go_wp2_with fail
          go_ret
          exact ⟨rfl, sgBelow _ _⟩
set_option maxRecDepth 100000 in
set_option maxHeartbeats 2000000 in
theorem validBlocks_yes (g : Sg) (n₀ : Nat) (a : Option Addr) (cap : Nat) (S : ByteArray) (w : World) (ok : g.Ok) (hc : SpAt w n₀ a g.bl) (hn : n₀ ≤ w.heap.size) :
    Calls Try.prog 83 #[.agg #[.int .i64 g.fp, .int .i64 g.tp, .int .i64 g.sq, .int .i64 g.ak, .bool g.syn, .bool g.fin, .bool g.rst, .bool g.has, .int .i64 g.win, .int .i64 g.mss, .bool g.sacks, .slice a g.bl.length cap, .string S]] w fun e w' => e = .returned (.bool true) ∧ Below w.heap.size w w' := by
  obtain ⟨fp, tp, sq, ak, syn, fin, rst, has, win, mss, sacks, bl, s⟩ := g
  have h1 := ok.blen
  have h2 := ok.bhas
  have HB := Lib.hid ok.blk
  clear ok
  dsimp only at h1 h2 HB hc ⊢
  have HC := Lib.hid hc
  have hl3 : (bl.length : Int) ≤ 3 := by omega
  have HE := Lib.hid (show has = true ∨ bl.length = 0 by
    rcases Nat.eq_zero_or_pos bl.length with e | e
    · exact .inr e
    · exact .inl (h2 e))
  clear hc h2
  by_cases hp : 0 < bl.length
  · have hhas : has = true := by rcases HE.out with e | e; exact e; omega
    subst hhas
    clear HE
    have hpi : (0 : Int) < (bl.length : Int) := by omega
    go_enter Try.func83, Try.ntmps83
    go_wp2_with fail
    generalize hW0 : w.alloc (.cells #[.int .i64 fp, .int .i64 tp, .int .i64 sq, .int .i64 ak, .bool syn, .bool fin, .bool rst, .bool true, .int .i64 win, .int .i64 mss, .bool sacks, .slice a bl.length cap, .string S] 31) = W0
    have HB0 := Lib.hid (show Below w.heap.size w W0 by rw [← hW0]; exact sgBelow _ _)
    clear hW0
    go_loopw [23] (fun p wr => ∃ k : Nat, k ≤ bl.length ∧ p = .int .i64 k ∧ Below w.heap.size w wr) (fun p _ => bl.length - (intOf p).toNat)
    case atStart => exact ⟨0, Nat.zero_le _, rfl, HB0.out⟩
    case round =>
      obtain ⟨k, hk, rfl, hbw⟩ := hrel
      clear HB0
      have HBW := Lib.hid hbw
      have hws := hbw.size
      clear hbw
      by_cases hlt : k < bl.length
      · obtain ⟨b, off, rfl, hbl, hcs⟩ := HC.out.cells (by omega)
        obtain ⟨c0, c1⟩ := hcs k hlt
        obtain ⟨x1, x2, x3⟩ := HB.out _ (List.getElem_mem hlt)
        have d0 := (HBW.out.cell (p := ⟨b, _, none⟩) (by show b < w.heap.size; omega)).trans c0
        have d1 := (HBW.out.cell (p := ⟨b, _, none⟩) (by show b < w.heap.size; omega)).trans c1
        clear hcs c0 c1
        generalize bl[k] = x at d0 d1 x1 x2 x3
        obtain ⟨u, v⟩ := x
        dsimp only at d0 d1 x1 x2 x3
        have HX1 := Lib.hid x1
        have HX2 := Lib.hid x2
        have huv : (u == v) = false := beq_eq_false_iff_ne.2 x3
        have hki : (k : Int) < (bl.length : Int) := by omega
        have hk3 : (k : Int) ≤ 3 := by omega
        have HB1 := Lib.hid (HBW.out.trans ((Below.refl wr.heap.size wr).alloc (Nat.le_refl _) (.cells #[.int .i64 u, .int .i64 v] 51) |>.mono hws))
        clear x1 x2 x3
        go_wp2_with fail
        refine (seqValid_yes _ _ HX1.out).mono ?_
        rintro e w9 ⟨rfl, rfl⟩
        go_wp2_with fail
        refine (seqValid_yes _ _ HX2.out).mono ?_
        rintro e w9 ⟨rfl, rfl⟩
        go_wp2_with fail
        exact ⟨⟨k + 1, hlt, by simp, HB1.out⟩, by simp [intOf]; omega⟩
      · go_wp2_with fail
        go_ret
        exact ⟨rfl, HBW.out⟩
  · clear HE
    have hpi : ¬ (0 : Int) < (bl.length : Int) := by omega
    go_enter Try.func83, Try.ntmps83
    go_wp2_with fail
    generalize hW0 : w.alloc (.cells #[.int .i64 fp, .int .i64 tp, .int .i64 sq, .int .i64 ak, .bool syn, .bool fin, .bool rst, .bool has, .int .i64 win, .int .i64 mss, .bool sacks, .slice a bl.length cap, .string S] 31) = W0
    have HB0 := Lib.hid (show Below w.heap.size w W0 by rw [← hW0]; exact sgBelow _ _)
    clear hW0
    go_loopw [23] (fun p wr => ∃ k : Nat, k ≤ bl.length ∧ p = .int .i64 k ∧ Below w.heap.size w wr) (fun p _ => bl.length - (intOf p).toNat)
    case atStart => exact ⟨0, Nat.zero_le _, rfl, HB0.out⟩
    case round =>
      obtain ⟨k, hk, rfl, hbw⟩ := hrel
      clear HB0
      have HBW := Lib.hid hbw
      have hws := hbw.size
      clear hbw
      by_cases hlt : k < bl.length
      · exact absurd (show 0 < bl.length by omega) hp
      · go_wp2_with fail
        go_ret
        exact ⟨rfl, HBW.out⟩
set_option maxRecDepth 100000 in
set_option maxHeartbeats 2000000 in
theorem segValid_yes (g : Sg) (n₀ : Nat) (a : Option Addr) (cap : Nat) (S : ByteArray) (w : World) (ok : g.Ok) (hS : S.data.toList = g.s) (hc : SpAt w n₀ a g.bl) (hn : n₀ ≤ w.heap.size) :
    Calls Try.prog 46 #[.agg #[.int .i64 g.fp, .int .i64 g.tp, .int .i64 g.sq, .int .i64 g.ak, .bool g.syn, .bool g.fin, .bool g.rst, .bool g.has, .int .i64 g.win, .int .i64 g.mss, .bool g.sacks, .slice a g.bl.length cap, .string S]] w fun e w' => e = .returned (.bool true) ∧ Below w.heap.size w w' := by
  have HN := Lib.hid (fun W => validNumbers_yes g a cap S W ok)
  have HF := Lib.hid (fun W => validFlags_yes g a cap S W ok)
  have HK := Lib.hid (fun W (hb : Below w.heap.size w W) => validBlocks_yes g n₀ a cap S W ok (hc.below (hb.mono hn)) (Nat.le_trans hn hb.size))
  have h1 := ok.sS
  have h2 := ok.slen
  have h3 := ok.blen
  have hsz : S.data.toList.length = S.size := by rw [Array.length_toList]; rfl
  rw [hS] at hsz
  obtain ⟨fp, tp, sq, ak, syn, fin, rst, has, win, mss, sacks, bl, s⟩ := g
  dsimp only at h1 h2 h3 hsz HN HF HK ⊢
  have hse : syn = true ∨ rst = true → S.toList.isEmpty = true := by
    intro h
    have := h1 h
    rw [this] at hsz
    have e : S = ⟨#[]⟩ := by
      apply ByteArray.ext
      apply Array.eq_empty_of_size_eq_zero
      exact hsz.symm
    rw [e]
    decide +kernel
  have hl : (S.size : Int) ≤ 1024 - 8 * (bl.length : Int) := by omega
  have HSE := Lib.hid hse
  have HA := Lib.hid (SgAt.new w ⟨fp, tp, sq, ak, syn, fin, rst, has, win, mss, sacks, bl, s⟩ a cap S)
  have HB := Lib.hid (sgBelow w (.cells #[.int .i64 fp, .int .i64 tp, .int .i64 sq, .int .i64 ak, .bool syn, .bool fin, .bool rst, .bool has, .int .i64 win, .int .i64 mss, .bool sacks, .slice a bl.length cap, .string S] 31))
  have hl3 : (bl.length : Int) ≤ 3 := by omega
  clear ok hS hc h1 h2 hse hsz
  go_enter Try.func46, Try.ntmps46
  go_wp2_with fail
  refine (HN.out _).mono ?_
  rintro e w1 ⟨rfl, hb1⟩
  replace HA := Lib.hid (HA.out.below hb1 (by simp))
  replace HB := Lib.hid (HB.out.trans (hb1.mono HB.out.size))
  clear hb1
  obtain ⟨z0, z1, z2, z3, z4, z5, z6, z7, z8, z9, z10, z11, z12⟩ := HA.out.cells
  dsimp only at z0 z1 z2 z3 z4 z5 z6 z7 z8 z9 z10 z11 z12
  go_wp2_with fail
  refine (HF.out _).mono ?_
  rintro e w2 ⟨rfl, hb2⟩
  clear z0 z1 z2 z3 z4 z5 z6 z7 z8 z9 z10 z11 z12
  replace HA := Lib.hid (HA.out.below hb2 HA.out.lt)
  replace HB := Lib.hid (HB.out.trans (hb2.mono HB.out.size))
  clear hb2
  obtain ⟨z0, z1, z2, z3, z4, z5, z6, z7, z8, z9, z10, z11, z12⟩ := HA.out.cells
  dsimp only at z0 z1 z2 z3 z4 z5 z6 z7 z8 z9 z10 z11 z12
  go_wp2_with fail
  refine (HK.out _ HB.out).mono ?_
  rintro e w3 ⟨rfl, hb3⟩
  clear z0 z1 z2 z3 z4 z5 z6 z7 z8 z9 z10 z11 z12
  replace HA := Lib.hid (HA.out.below hb3 HA.out.lt)
  replace HB := Lib.hid (HB.out.trans (hb3.mono HB.out.size))
  clear hb3
  obtain ⟨-, -, -, -, z4, -, z6, -, -, -, -, z11, z12⟩ := HA.out.cells
  dsimp only at z4 z6 z11 z12
  cases syn with
  | true =>
    have he := HSE.out (.inl rfl)
    go_wp2_with fail
    go_ret
    exact ⟨rfl, HB.out⟩
  | false =>
    cases rst with
    | true =>
      have he := HSE.out (.inr rfl)
      go_wp2_with fail
      go_ret
      exact ⟨rfl, HB.out⟩
    | false =>
      go_wp2_with fail
      go_ret
      exact ⟨rfl, HB.out⟩
end Go.Proofs.Ytncjeleabpodaaa
