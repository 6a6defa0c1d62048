/- RTORecvBuf: the law's walk. -/
import Derived.Test.YtfeppkgcimgkeaaRbNew
import Derived.Test.YtfeppkgcimgkeaaRbSpec
import Derived.Test.YtfeppkgcimgkeaaRtoEx
import Derived.Test.YtfeppkgcimgkeaaBlk
namespace Go.Proofs.Ytfeppkgcimgkeaa
open Go.RowKit Go.Shelf
def missB (cs : List Bool) : Nat := (cs.filter (fun b => !b)).length
theorem missB_le (cs : List Bool) : missB cs ≤ cs.length := List.length_filter_le ..
theorem missB_set {cs : List Bool} {k : Nat} (h : k < cs.length) : missB (cs.set k true) + (if cs[k] = true then 0 else 1) = missB cs := by
  induction cs generalizing k with
  | nil => simp at h
  | cons c cs ih =>
    cases k with
    | zero => cases c <;> simp [missB]
    | succ k =>
      have := ih (k := k) (by simpa using h)
      cases c <;> simp [missB] at this ⊢ <;> omega
theorem missB_zero {cs : List Bool} : missB cs = 0 ↔ ∀ k (h : k < cs.length), cs[k] = true := by
  unfold missB
  rw [List.length_eq_zero_iff, List.filter_eq_nil_iff]
  constructor
  · intro h k hk
    have := h cs[k] (List.getElem_mem hk)
    simpa using this
  · intro h x hx
    obtain ⟨k, hk, rfl⟩ := List.mem_iff_getElem.1 hx
    simp [h k hk]
/-- The buffer has received exactly the segments that came. -/
structure RbInv (n : Nat) (cs : List Bool) (b : Bx) : Prop where
  ok : b.Ok
  rd : b.rd = 0
  ring : b.ring.length = 10 * n
  len : cs.length = n
  has : ∀ i, b.has i ↔ ∃ k, ∃ h : k < cs.length, cs[k] = true ∧ 10 * (k : Int) ≤ i ∧ i < 10 * (k : Int) + 10
theorem RbInv.put {n : Nat} {cs : List Bool} {b : Bx} (h : RbInv n cs b) {k : Nat} (hk : k < n) {s : List UInt8} (hs : s.length = 10) : RbInv n (cs.set k true) (b.put (10 * (k : Int)) s) := by
  have hsm := h.ok.most
  rw [h.ring] at hsm
  obtain ⟨p1, p2, p3, p4, p5⟩ := Bx.put_spec h.ok s (off := 10 * (k : Int)) (by omega) (by omega)
  refine ⟨p1, p2.trans h.rd, p3.trans h.ring, by rw [List.length_set]; exact h.len, fun i => ?_⟩
  rw [p5, h.has, hs, h.rd, h.ring]
  have hl := h.len
  constructor
  · rintro (⟨j, hj, e, g⟩ | g)
    · refine ⟨j, by rw [List.length_set]; exact hj, ?_, g⟩
      rw [List.getElem_set]; split
      · rfl
      · exact e
    · refine ⟨k, by rw [List.length_set]; omega, by rw [List.getElem_set_self], by omega⟩
  · rintro ⟨j, hj, e, g⟩
    by_cases hkj : k = j
    · subst hkj; exact .inr (by omega)
    · rw [List.getElem_set_ne hkj] at e
      exact .inl ⟨j, by rw [List.length_set] at hj; exact hj, e, g⟩
theorem RbInv.all {n : Nat} {cs : List Bool} {b : Bx} (h : RbInv n cs b) : (b.nx = 10 * (n : Int)) ↔ missB cs = 0 := by
  have hn := h.ok.nope
  have h1 := h.ok.nxend
  have h2 := h.ok.rdnx
  rw [h.rd, h.ring] at h1
  rw [h.rd] at h2
  have hl := h.len
  constructor
  · intro e
    rw [missB_zero]
    intro k hk
    have hh : b.has (10 * (k : Int)) := .inl (by omega)
    obtain ⟨j, hj, e1, g⟩ := (h.has _).1 hh
    obtain rfl : j = k := by omega
    exact e1
  · intro e
    rw [missB_zero] at e
    rcases (show b.nx < 10 * (n : Int) ∨ 10 * (n : Int) ≤ b.nx by omega) with g | g
    · exfalso
      apply hn
      rw [h.has]
      refine ⟨(b.nx / 10).toNat, by omega, e _ _, by omega, by omega⟩
    · omega
theorem RbInv.start (n : Nat) (h1 : 1 ≤ n) (h2 : n ≤ 800) : RbInv n (List.replicate n false) (bx0 (10 * n)) := by
  refine ⟨bx0_ok _ (by omega) (by omega), rfl, by simp [bx0], by simp, fun i => ⟨?_, ?_⟩⟩
  · rintro (⟨g1, g2⟩ | g)
    · have : i < 0 := g2; omega
    · exact (mem_nil g).elim
  · rintro ⟨k, hk, e, _⟩
    simp at e
/-- Block C holds the flags cs. -/
def CameAt (C : Nat) (cs : List Bool) (w : World) : Prop := w.heap[C]? = some (.cells (cs.map Value.bool).toArray 4 (0, 0))
theorem CameAt.cell {C : Nat} {cs : List Bool} {w : World} (h : CameAt C cs w) {k : Nat} (hk : k < cs.length) : w.cell? ⟨C, k, none⟩ = some (.bool cs[k]) ∧ w.frozen? ⟨C, k, none⟩ = false := by
  refine ⟨?_, frozen_of_row _ _ _ _ _ h⟩
  rw [cell_of_row _ _ _ _ _ _ h]
  simp [hk]
theorem CameAt.set {C : Nat} {cs : List Bool} {w : World} (h : CameAt C cs w) (k : Nat) (v : Bool) : CameAt C (cs.set k v) (w.setCell ⟨C, k, none⟩ (.bool v)) := by
  unfold CameAt
  rw [heap_setCell_same _ _ _ _ _ _ h]
  simp [List.map_set]
theorem CameAt.lt {C : Nat} {cs : List Bool} {w : World} (h : CameAt C cs w) : C < w.heap.size := (Array.getElem?_eq_some_iff.1 h).1
theorem came_of_own {w : World} {base g n cap : Nat} {cs : List Bool} (h : w.ownsRow base 4 1 (.slice (some ⟨g, 0, none⟩) n cap) n (cs.map Value.bool)) (hc : cap = n) : CameAt g cs w := by
  rcases h.2 with ⟨e, _⟩ | ⟨g', cap', cur, e, _, hg, _, _, hcs, ht⟩
  · cases e
  · cases e
    subst hc
    rw [Nat.mul_one] at hcs ht
    rw [List.take_of_length_le (by rw [Array.length_toList]; omega)] at ht
    unfold CameAt
    rw [hg, ← ht]
theorem boolInfo : (Try.prog.info? 4).map (fun i => (i.zero, i.size, i.bytes)) = some (some (.bool false), 1, 1) := by kernel_rfl
/-- What the loop keeps. -/
structure RbL (n B R C T : Nat) (lb : Nat) (w : World) (i : Nat) (cs : List Bool) (wr : World) : Prop where
  ex : ∃ b, RbInv n cs b ∧ BoxAt B R lb b wr
  came : CameAt C cs wr
  tim : Tim T (if missB cs = 0 then (tm0.sent 0 (10 * (n : Int))).acked (i : Int) (10 * (n : Int)) else tm0.sent 0 (10 * (n : Int))) wr
  below : Below w.heap.size w wr
  bnd : i ≤ 199 ∨ i + missB cs ≤ 200 + n
  apart : w.heap.size ≤ B ∧ w.heap.size ≤ R ∧ w.heap.size ≤ C ∧ w.heap.size ≤ T ∧ C ≠ B ∧ C ≠ R ∧ T ≠ B ∧ T ≠ R ∧ C ≠ T ∧ C < lb ∧ T < lb ∧ lb ≤ wr.heap.size
theorem m1_v (n : Nat) : (tm0.sent 0 (10 * (n : Int))).value = 12 := by
  unfold Tm.sent Tm.value Tm.base tm0; simp; decide
theorem m1_acked (n : Nat) (now una : Int) : (tm0.sent 0 (10 * (n : Int))).acked now una = if 10 * (n : Int) ≤ una then (tm0.sent 0 (10 * (n : Int))).acked now (10 * (n : Int)) else tm0.sent 0 (10 * (n : Int)) := by
  have e1 : (tm0.sent 0 (10 * (n : Int))).timing = true := rfl
  have e2 : (tm0.sent 0 (10 * (n : Int))).goal = 10 * (n : Int) := rfl
  unfold Tm.acked
  rw [e1, e2]
  by_cases h : 10 * (n : Int) ≤ una
  · rw [if_pos ⟨rfl, h⟩, if_pos h, if_pos ⟨rfl, Int.le_refl _⟩]
  · rw [if_neg (fun g => h g.2), if_neg h]
theorem m1_fit (n : Nat) : (tm0.sent 0 (10 * (n : Int))).Fit := Tm.sent_fit tm0_fit _ _ (by unfold In64; decide)
theorem CameAt.chg2 {B R C : Nat} {cs : List Bool} {w w' : World} (h : CameAt C cs w) (hc : Chg2 B R w w') (h1 : C ≠ B) (h2 : C ≠ R) : CameAt C cs w' := (hc.block C h.lt h1 h2).trans h
theorem Tim.chg2 {B R T : Nat} {m : Tm} {w w' : World} (h : Tim T m w) (hc : Chg2 B R w w') (h1 : T ≠ B) (h2 : T ≠ R) : Tim T m w' := by
  have hl := h.lt
  obtain ⟨t, ht⟩ := h
  exact ⟨t, (hc.block T hl h1 h2).trans ht⟩
theorem CameAt.below {C : Nat} {cs : List Bool} {w w' : World} (h : CameAt C cs w) (hb : Below w.heap.size w w') : CameAt C cs w' := (hb.block C h.lt).trans h
theorem CameAt.other {C D : Nat} {cs : List Bool} {w w' : World} (h : CameAt C cs w) (hc : Chg D w w') (hne : C ≠ D) : CameAt C cs w' := (hc.block C h.lt hne).trans h
theorem m_val (g now : Int) : ((tm0.sent 0 g).acked now g).value = ((tm0.sent 0 1).acked now 1).value := by
  simp [Tm.acked, Tm.sent, tm0, Tm.sample, Tm.value, Tm.base]
theorem m1_fit2 (g now : Int) : ((tm0.sent 0 g).acked now g).Fit := Tm.acked_fit (Tm.sent_fit tm0_fit _ _ (by unfold In64; decide)) _ _
theorem putE_ok (k : Nat) (h : k ≤ 1000) : putE (10 * (k : Int)) = 0 := by unfold putE; rw [if_neg (by omega)]
set_option maxRecDepth 100000 in
set_option maxHeartbeats 4000000 in
theorem recvbuf_walk (w : World) (m : Nat) (hm : m ≤ 255) (a : Option Addr) (len cap : Nat) (zs : List Int) (hrow : IsRow .u8 w a len cap zs) :
    Calls Try.prog 3 #[.int .u8 (m : Int), .slice a len cap] w fun r w' => r = .returned (.bool true) ∧ Below w.heap.size w w' := by
  obtain ⟨n, hn⟩ : ∃ n, n = 2 + m % 11 := ⟨_, rfl⟩
  have hn1 : 2 ≤ n := by omega
  have hn2 : n ≤ 12 := by omega
  have hmod : (m : Int).tmod 11 = ((m % 11 : Nat) : Int) := by rw [Int.tmod_eq_emod_of_nonneg (by omega)]; rfl
  obtain ⟨q, hq⟩ : ∃ q, q = m % 11 := ⟨_, rfl⟩
  rw [← hq] at hmod
  have hqn : 2 + (q : Int) = (n : Int) := by omega
  have HN := Lib.hid hn
  have hq2 : q ≤ 10 := by omega
  clear hn hq
  have hlen : len ≤ 9223372036854775807 := by
    rcases Nat.eq_zero_or_pos len with h | h
    · omega
    · obtain ⟨b, off, -, h2, -⟩ := hrow.at h; unfold maxLen at h2; omega
  obtain ⟨i0, hi, hz0, hz1, hz2⟩ := info_parts boolInfo
  have HROW := Lib.hid hrow
  clear hrow
  have HNB := Lib.hid (show ∀ w0 : World, Calls Try.prog 11 #[.int .i64 (10 * (n : Int))] w0 fun e w' => ∃ B R, e = .returned (.tuple #[.pointer (some ⟨B, 0, none⟩), .int .i64 0]) ∧ (∀ lb, BoxAt B R lb (bx0 (10 * n)) w') ∧ Below w0.heap.size w0 w' ∧ w0.heap.size ≤ B ∧ w0.heap.size ≤ R from fun w0 => by
    have := new_box (10 * n) (by omega) (by omega) w0
    rw [Int.natCast_mul] at this
    exact this)
  go_enter Try.func3, Try.ntmps3
  go_wp2_with fail
  refine (examples_any _).mono ?_
  rintro e w1 ⟨rfl, hb1⟩
  go_wp2_with fail
  refine (HNB.out _).mono ?_
  rintro e w2 ⟨B, R, rfl, hbox, hb2, hB, hR⟩
  have HBX := Lib.hid hbox
  have hBR := (hbox 0).lt
  have hb12 : Below w.heap.size w w2 := hb1.trans (hb2.mono hb1.size)
  have hs1 := hb1.size
  clear hbox hb1 hb2
  go_wp2_with fail
  refine (new_any _).mono ?_
  rintro e w3 ⟨rfl, hw3⟩
  have hT3 := Tim.new_eq hw3
  have hx3 : ∀ lb, BoxAt B R lb (bx0 (10 * n)) w3 := fun lb => by rw [hw3]; exact (HBX.out lb).alloc _
  have hb3 := below_alloc_eq hb12 hb12.size hw3
  have hs3 : w3.heap.size = w2.heap.size + 1 := by rw [hw3]; simp
  have HX3 := Lib.hid hx3
  clear hx3 hw3 HBX
  go_wp2_with fail
  refine (sent_any _ _ 0 (10 * (n : Int)) _ hT3).mono ?_
  rintro e w4 ⟨rfl, hT4, hc4⟩
  have hx4 : ∀ lb, w2.heap.size < lb → BoxAt B R lb (bx0 (10 * n)) w4 := fun lb hl => (HX3.out lb).other hc4 (by omega) (by omega) hl
  have hb4 := below_chg hb3 (by have := hb12.size; omega) hT3.lt hc4
  have hs4 := hc4.size
  have HX4 := Lib.hid hx4
  have HT4 := Lib.hid hT4
  have HB4 := Lib.hid hb4
  clear hx4 hT4 hb4 hT3 hb3 HX3
  go_wp2_with (first | (at_make; refine wpList_make_full _ rfl _ _ _ rfl w4.heap.size 4 i0 _ 1 Try.underlying31 hi hz0 hz1 _ _ _ _ n rfl rfl rfl rfl (by rw [hz2]; omega) (by unfold maxLen; omega) (Nat.le_refl _) ?_))
  intro w5 hown hgr
  have hlt5 := (World.ownsRow.lt hown w4.heap.size rfl).2
  have hcm : CameAt w4.heap.size (List.replicate n false) w5 := by
    refine came_of_own (base := w4.heap.size) (n := n) (cap := n) ?_ rfl
    have e : (madeCells #[Value.bool false] n).toList = (List.replicate n false).map Value.bool := by
      apply List.ext_getElem
      · simp [madeCells]
      · intro i h1 h2
        simp [madeCells, Nat.mod_one]
    rw [← e]
    exact hown
  have hb5 : Below w4.heap.size w4 w5 := grown_below hgr (Nat.le_refl _) (fun k e => by cases e)
  have hmr : missB (List.replicate n false) = n := by simp [missB]
  have hs5 := hb5.size
  have HL := Lib.hid (show RbL n B R w4.heap.size w2.heap.size w5.heap.size w 0 (List.replicate n false) w5 from ⟨⟨_, RbInv.start n (by omega) (by omega), (HX4.out _ (by omega)).below hb5⟩, hcm, by rw [hmr, if_neg (by omega)]; exact HT4.out.below hb5, HB4.out.trans (hb5.mono (by have := hb12.size; omega)), .inl (by omega), by have := hb12.size; omega⟩)
  clear hown hgr hcm hb5 HX4 HT4 HB4 HNB
  go_wp2_with fail
  go_loopw [11, 12, 13] (fun ms nw iv wr => ∃ (i : Nat) (cs : List Bool), ms = .int .i64 (missB cs : Nat) ∧ nw = .int .i64 i ∧ iv = .int .i64 i ∧ RbL n B R w4.heap.size w2.heap.size w5.heap.size w i cs wr) (fun ms _ iv _ => (200 - (intOf iv).toNat) + (intOf ms).toNat)
  case atStart => exact ⟨0, List.replicate n false, by rw [hmr], rfl, rfl, HL.out⟩
  case round =>
    clear HL
    obtain ⟨i, cs, rfl, rfl, rfl, hL⟩ := hrel
    obtain ⟨b, hinv, hbox⟩ := hL.ex
    have hcl := hinv.len
    have hml := missB_le cs
    have hbnd := hL.bnd
    have hi2 : i ≤ 212 := by omega
    have HL := Lib.hid hL
    have HI := Lib.hid hinv
    have HBX := Lib.hid hbox
    clear hL hinv hbox
    by_cases hm0 : missB cs = 0
    · have hT := HL.out.tim
      rw [if_pos hm0] at hT
      have hap := HL.out.apart
      have hTl := hT.lt
      have HT := Lib.hid hT
      have HB := Lib.hid HL.out.below
      have hwl := HL.out.below.size
      have hz : ((missB cs : Nat) : Int) = 0 := by omega
      clear hT HL HI HBX
      go_wp2_with fail
      refine (new_any _).mono ?_
      rintro e u1 ⟨rfl, hu1⟩
      have hU1 := Tim.new_eq hu1
      have hT1 := HT.out.alloc_eq hu1
      have hb1 := below_alloc_eq HB.out hwl hu1
      clear hu1 HT HB
      go_wp2_with fail
      refine (sent_any _ _ 0 1 _ hU1).mono ?_
      rintro e u2 ⟨rfl, hU2, hc2⟩
      have hT2 := hT1.other hc2 (by omega)
      have hb2 := below_chg hb1 hwl hU1.lt hc2
      clear hU1 hT1 hb1 hc2
      go_wp2_with fail
      refine (acked_any _ _ (i : Int) 1 (by unfold In64; omega) (Tm.sent_fit tm0_fit _ _ (by unfold In64; decide)) _ hU2).mono ?_
      rintro e u3 ⟨rfl, hU3, hc3⟩
      have hT3 := hT2.other hc3 (by omega)
      have hb3 := below_chg hb2 hwl hU2.lt hc3
      clear hU2 hT2 hb2 hc3
      go_wp2_with fail
      refine (value_any _ _ (m1_fit2 _ _).1 _ hT3).mono ?_
      rintro e u4 ⟨rfl, hb4⟩
      have hU4 := hU3.below hb4
      have hb5 := below_val hb3 hb3.size hb4
      clear hU3 hT3 hb3 hb4
      go_wp2_with fail
      refine (value_any _ _ (m1_fit2 _ _).1 _ hU4).mono ?_
      rintro e u6 ⟨rfl, hb6⟩
      have hb7 := below_val hb5 hb5.size hb6
      clear hU4 hb5 hb6
      rw [m_val (10 * (n : Int)) (i : Int)]
      go_wp2_with fail
      go_ret
      exact ⟨rfl, hb7⟩
    · have hm1 : 1 ≤ missB cs := by omega
      have hmz : ((missB cs : Nat) : Int) ≠ 0 := by omega
      have hmp : (0 : Int) < ((missB cs : Nat) : Int) := by omega
      by_cases hA : i < len ∧ i < 200
      · obtain ⟨hA1, hA2⟩ := hA
        obtain ⟨tb, to, ha, -, htb, hcells⟩ := HROW.out.at (by omega)
        obtain ⟨ct, hwf⟩ := hcells i hA1
        subst ha
        have hct := (HL.out.below.cell (p := ⟨tb, to + i, none⟩) htb).trans ct
        obtain ⟨hz5, hz6⟩ := bounds_u8 hwf
        generalize zs.getD i 0 = z at *
        obtain ⟨z, rfl⟩ := Int.eq_ofNat_of_zero_le hz5
        have hzm : ((z : Nat) : Int).tmod (n : Int) = ((z % n : Nat) : Int) := by rw [Int.tmod_eq_emod_of_nonneg (by omega)]; rfl
        obtain ⟨k, hkz⟩ : ∃ k, k = z % n := ⟨_, rfl⟩
        have hk : k < n := by rw [hkz]; exact Nat.mod_lt _ (by omega)
        rw [← hkz] at hzm
        clear hkz ct hwf
        have hil : (i : Int) < (len : Int) := by omega
        have hnz : n ≠ 0 := by omega
        go_wp2_with fail
        obtain ⟨c0, f0⟩ := HL.out.came.cell (show k < cs.length by omega)
        obtain ⟨s10, hs10⟩ : ∃ s : ByteArray, s = { data := #[48, 49, 50, 51, 52, 53, 54, 55, 56, 57] } := ⟨_, rfl⟩
        rw [← hs10]
        have hs1 : s10.size = 10 := by rw [hs10]; rfl
        have hs2 : s10.data.toList.length = 10 := by rw [hs10]; rfl
        have HS := Lib.hid hs2
        clear hs10 hs2
        refine (put_any B R w5.heap.size b (10 * (k : Int)) s10 wr HBX.out HI.out.ok HL.out.apart.2.2.2.2.2.2.2.2.2.2.2 (by omega)).mono ?_
        rintro e p1 ⟨rfl, hx1, hc1⟩
        rw [putE_ok k (by omega)]
        generalize b.putN (10 * (k : Int)) s10.size = pn
        have hinv' := HI.out.put hk HS.out
        have hap := HL.out.apart
        have hcm1 := HL.out.came.chg2 hc1 (by omega) (by omega)
        have ht1 := HL.out.tim.chg2 hc1 (by omega) (by omega)
        rw [if_neg hm0] at ht1
        have hb1 : Below w.heap.size w p1 := HL.out.below.trans (hc1.below hap.1 hap.2.1 HL.out.below.size)
        obtain ⟨d0, g0⟩ := hcm1.cell (show k < cs.length by omega)
        have hms := missB_set (show k < cs.length by omega)
        have hz1 := hc1.size
        have HX1 := Lib.hid hx1
        have HCM := Lib.hid hcm1
        have HT1 := Lib.hid ht1
        have HB1 := Lib.hid hb1
        have HI2 := Lib.hid hinv'
        have hkn : (k : Int) < (n : Int) := by omega
        clear hx1 hc1 hcm1 ht1 hb1 hinv' c0 f0 HBX HI
        obtain ⟨ms, hms2⟩ : ∃ ms, ms = missB (cs.set k true) := ⟨_, rfl⟩
        rw [← hms2] at hms
        have HMS := Lib.hid hms2
        clear hms2
        cases hck : cs[k] with
        | true =>
          rw [hck] at d0 hms
          simp only [if_true, Nat.add_zero] at hms
          have hmi : ((missB cs : Nat) : Int) = (ms : Int) := by omega
          rw [hmi]
          go_wp2_with fail
          have hcs := HCM.out.set k true
          have hcc := (Chg.refl w4.heap.size p1).setCell k (.bool true)
          have hx2 := HX1.out.other hcc (by omega) (by omega) (by omega)
          have ht2 := HT1.out.other hcc (by omega)
          have hb2 := below_chg HB1.out (by omega) HCM.out.lt hcc
          have hz2 := hcc.size
          clear hcc HX1 HCM HT1 HB1 d0 g0
          generalize p1.setCell ⟨w4.heap.size, k, none⟩ (.bool true) = p2 at *
          refine (value_any _ _ (m1_fit n).1 _ ht2).mono ?_
          rintro e p3 ⟨rfl, hb3⟩
          rw [m1_v]
          replace hcs := hcs.below hb3
          replace hx2 := hx2.below hb3
          replace ht2 := ht2.below hb3
          replace hb2 := below_val hb2 hb2.size hb3
          have hz3 := hb3.size
          clear hb3
          go_wp2_with fail
          refine (next_any _ _ _ _ _ hx2).mono ?_
          rintro e p4 ⟨rfl, rfl⟩
          have hall := HI2.out.all
          rw [← HMS.out] at hall
          have hnx1 := HI2.out.ok.nxend
          rw [HI2.out.rd, HI2.out.ring] at hnx1
          have HMA := Lib.hid (m1_acked n ((i : Int) + 1) (b.put (10 * (k : Int)) s10.data.toList).nx)
          have hmsn : ms ≤ n := by omega
          by_cases hm2 : ms = 0
          · exact absurd hm2 (by omega)
          · have e1 : (b.put (10 * (k : Int)) s10.data.toList).nx ≠ 10 * (n : Int) := fun e => hm2 (hall.1 e)
            have e2 : (b.put (10 * (k : Int)) s10.data.toList).nx < 10 * (n : Int) := by omega
            have e3 : ((ms : Nat) : Int) ≠ 0 := by omega
            have HNX := Lib.hid (next_any B R w5.heap.size _ _ hx2)
            generalize hgx : (b.put (10 * (k : Int)) s10.data.toList).nx = nxv at *
            have e4 : (nxv == 10 * (n : Int)) = false := by rw [beq_eq_false_iff_ne]; exact e1
            have e5 : (((ms : Nat) : Int) == 0) = false := by rw [beq_eq_false_iff_ne]; exact e3
            have HCS := Lib.hid hcs
            have HX2 := Lib.hid hx2
            have HT2 := Lib.hid ht2
            have HB2 := Lib.hid hb2
            clear hcs hx2 ht2 hb2
            go_wp2_with fail
            refine HNX.out.mono ?_
            rintro e p5 ⟨rfl, rfl⟩
            clear HNX
            go_wp2_with fail
            refine (acked_any _ _ ((i : Int) + 1) nxv (by unfold In64; omega) (m1_fit n) _ HT2.out).mono ?_
            rintro e p6 ⟨rfl, ht6, hc6⟩
            have hx6 := HX2.out.other hc6 (by omega) (by omega) (by omega)
            have hcm6 := HCS.out.other hc6 (by omega)
            have hb6 := below_chg HB2.out (by omega) HT2.out.lt hc6
            have hz6 := hc6.size
            rw [HMA.out, if_neg (by omega)] at ht6
            have HL6 := Lib.hid (show RbL n B R w4.heap.size w2.heap.size w5.heap.size w (i + 1) (cs.set k true) p6 from ⟨⟨_, HI2.out, hx6⟩, hcm6, by rw [← HMS.out, if_neg hm2]; exact ht6, hb6, by rw [← HMS.out]; omega, by omega⟩)
            clear ht6 hx6 hcm6 hb6 hc6
            go_wp2_with fail
            go_roundw
            case rel => exact ⟨i + 1, cs.set k true, by rw [← HMS.out], by go_num, by go_num, HL6.out⟩
            case measure => simp [intOf]; omega
        | false =>
          rw [hck] at d0 hms
          simp only [Bool.false_eq_true, if_false] at hms
          have hmi : ((missB cs : Nat) : Int) = (ms : Int) + 1 := by omega
          rw [hmi]
          go_wp2_with fail
          have hcs := HCM.out.set k true
          have hcc := (Chg.refl w4.heap.size p1).setCell k (.bool true)
          have hx2 := HX1.out.other hcc (by omega) (by omega) (by omega)
          have ht2 := HT1.out.other hcc (by omega)
          have hb2 := below_chg HB1.out (by omega) HCM.out.lt hcc
          have hz2 := hcc.size
          clear hcc HX1 HCM HT1 HB1 d0 g0
          generalize p1.setCell ⟨w4.heap.size, k, none⟩ (.bool true) = p2 at *
          refine (value_any _ _ (m1_fit n).1 _ ht2).mono ?_
          rintro e p3 ⟨rfl, hb3⟩
          rw [m1_v]
          replace hcs := hcs.below hb3
          replace hx2 := hx2.below hb3
          replace ht2 := ht2.below hb3
          replace hb2 := below_val hb2 hb2.size hb3
          have hz3 := hb3.size
          clear hb3
          go_wp2_with fail
          refine (next_any _ _ _ _ _ hx2).mono ?_
          rintro e p4 ⟨rfl, rfl⟩
          have hall := HI2.out.all
          rw [← HMS.out] at hall
          have hnx1 := HI2.out.ok.nxend
          rw [HI2.out.rd, HI2.out.ring] at hnx1
          have HMA := Lib.hid (m1_acked n ((i : Int) + 1) (b.put (10 * (k : Int)) s10.data.toList).nx)
          have hmsn : ms ≤ n := by omega
          by_cases hm2 : ms = 0
          · have e1 := hall.2 hm2
            rw [e1]
            subst hm2
            have HCS := Lib.hid hcs
            have HX2 := Lib.hid hx2
            have HT2 := Lib.hid ht2
            have HB2 := Lib.hid hb2
            clear hcs hx2 ht2 hb2
            go_wp2_with fail
            refine (next_any _ _ _ _ _ HX2.out).mono ?_
            rintro e p5 ⟨rfl, rfl⟩
            rw [e1]
            go_wp2_with fail
            refine (acked_any _ _ ((i : Int) + 1) (10 * (n : Int)) (by unfold In64; omega) (m1_fit n) _ HT2.out).mono ?_
            rintro e p6 ⟨rfl, ht6, hc6⟩
            have hx6 := HX2.out.other hc6 (by omega) (by omega) (by omega)
            have hcm6 := HCS.out.other hc6 (by omega)
            have hb6 := below_chg HB2.out (by omega) HT2.out.lt hc6
            have hz6 := hc6.size
            have HL6 := Lib.hid (show RbL n B R w4.heap.size w2.heap.size w5.heap.size w (i + 1) (cs.set k true) p6 from ⟨⟨_, HI2.out, hx6⟩, hcm6, by rw [← HMS.out, if_pos rfl]; exact ht6, hb6, by rw [← HMS.out]; omega, by omega⟩)
            clear ht6 hx6 hcm6 hb6 hc6
            go_wp2_with fail
            go_roundw
            case rel => exact ⟨i + 1, cs.set k true, by rw [← HMS.out]; try rfl, by go_num, by go_num, HL6.out⟩
            case measure => simp [intOf]; omega
          · have e1 : (b.put (10 * (k : Int)) s10.data.toList).nx ≠ 10 * (n : Int) := fun e => hm2 (hall.1 e)
            have e2 : (b.put (10 * (k : Int)) s10.data.toList).nx < 10 * (n : Int) := by omega
            have e3 : ((ms : Nat) : Int) ≠ 0 := by omega
            have HNX := Lib.hid (next_any B R w5.heap.size _ _ hx2)
            generalize hgx : (b.put (10 * (k : Int)) s10.data.toList).nx = nxv at *
            have e4 : (nxv == 10 * (n : Int)) = false := by rw [beq_eq_false_iff_ne]; exact e1
            have e5 : (((ms : Nat) : Int) == 0) = false := by rw [beq_eq_false_iff_ne]; exact e3
            have HCS := Lib.hid hcs
            have HX2 := Lib.hid hx2
            have HT2 := Lib.hid ht2
            have HB2 := Lib.hid hb2
            clear hcs hx2 ht2 hb2
            go_wp2_with fail
            refine HNX.out.mono ?_
            rintro e p5 ⟨rfl, rfl⟩
            clear HNX
            go_wp2_with fail
            refine (acked_any _ _ ((i : Int) + 1) nxv (by unfold In64; omega) (m1_fit n) _ HT2.out).mono ?_
            rintro e p6 ⟨rfl, ht6, hc6⟩
            have hx6 := HX2.out.other hc6 (by omega) (by omega) (by omega)
            have hcm6 := HCS.out.other hc6 (by omega)
            have hb6 := below_chg HB2.out (by omega) HT2.out.lt hc6
            have hz6 := hc6.size
            rw [HMA.out, if_neg (by omega)] at ht6
            have HL6 := Lib.hid (show RbL n B R w4.heap.size w2.heap.size w5.heap.size w (i + 1) (cs.set k true) p6 from ⟨⟨_, HI2.out, hx6⟩, hcm6, by rw [← HMS.out, if_neg hm2]; exact ht6, hb6, by rw [← HMS.out]; omega, by omega⟩)
            clear ht6 hx6 hcm6 hb6 hc6
            go_wp2_with fail
            go_roundw
            case rel => exact ⟨i + 1, cs.set k true, by rw [← HMS.out], by go_num, by go_num, HL6.out⟩
            case measure => simp [intOf]; omega
      · have hA3 : ¬ ((i : Int) < (len : Int) ∧ (i : Int) < 200) := by omega
        have HA := Lib.hid hA
        have hkk : n - missB cs < n := by omega
        have hsub : (n : Int) - ((missB cs : Nat) : Int) = ((n - missB cs : Nat) : Int) := by omega
        obtain ⟨fk, hfk, hff⟩ : ∃ k, ∃ h : k < cs.length, cs[k] = false := by
          refine Classical.byContradiction (fun hno => hm0 (missB_zero.2 (fun k hk => ?_)))
          cases hx : cs[k] with
          | true => rfl
          | false => exact (hno ⟨k, hk, hx⟩).elim
        have HFF := Lib.hid hff
        clear hff hA
        have hgo : ∀ b : Bool, (decide ((i : Int) < (len : Int)) && b) = (decide ((i : Int) < (len : Int)) && b) := fun _ => rfl
        clear hgo
        by_cases hil : (i : Int) < (len : Int)
        · have hi200 : ¬ (i : Int) < 200 := fun h => hA3 ⟨hil, h⟩
          go_wp2_with fail
          go_loopw [14, 15] (fun kv jv wj => wj = wr ∧ ∃ k j : Nat, kv = .int .i64 k ∧ jv = .int .i64 j ∧ k < n ∧ j ≤ n ∧ (∀ j', j' < j → ∀ h : j' < cs.length, cs[j'] = false → ∃ h2 : k < cs.length, cs[k] = false)) (fun _ jv _ => n - (intOf jv).toNat)
          case atStart => exact ⟨rfl, n - missB cs, 0, by rw [← hsub]; try rfl, rfl, hkk, Nat.zero_le _, fun j' h => absurd h (by omega)⟩
          case round =>
            obtain ⟨rfl, k, j, rfl, rfl, hk, hj, hjs⟩ := hrel
            by_cases hjn : j < n
            · obtain ⟨cj, -⟩ := HL.out.came.cell (show j < cs.length by omega)
              have hjn2 : (j : Int) < (n : Int) := by omega
              cases hcj : cs[j] with
              | true =>
                rw [hcj] at cj
                go_wp2_with fail
                go_roundw
                case rel =>
                  refine ⟨by first | rfl | trivial, k, j + 1, by go_num, by go_num, hk, by omega, fun j' h1 h2 h3 => ?_⟩
                  by_cases e : j' = j
                  · subst e; rw [hcj] at h3; cases h3
                  · exact hjs j' (by omega) h2 h3
                case measure => simp [intOf]; omega
              | false =>
                rw [hcj] at cj
                go_wp2_with fail
                go_roundw
                case rel => exact ⟨by first | rfl | trivial, j, j + 1, by go_num, by go_num, hjn, by omega, fun j' _ _ _ => ⟨by omega, hcj⟩⟩
                case measure => simp [intOf]; omega
            · have hcf : cs[k]'(by omega) = false := (hjs fk (by omega) hfk HFF.out).2
              have hjn2 : ¬ (j : Int) < (n : Int) := by omega
              go_wp2_with fail
              obtain ⟨c0, f0⟩ := HL.out.came.cell (show k < cs.length by omega)
              obtain ⟨s10, hs10⟩ : ∃ s : ByteArray, s = { data := #[48, 49, 50, 51, 52, 53, 54, 55, 56, 57] } := ⟨_, rfl⟩
              rw [← hs10]
              have hs1 : s10.size = 10 := by rw [hs10]; rfl
              have hs2 : s10.data.toList.length = 10 := by rw [hs10]; rfl
              have HS := Lib.hid hs2
              clear hs10 hs2
              refine (put_any B R w5.heap.size b (10 * (k : Int)) s10 wr HBX.out HI.out.ok HL.out.apart.2.2.2.2.2.2.2.2.2.2.2 (by omega)).mono ?_
              rintro e p1 ⟨rfl, hx1, hc1⟩
              rw [putE_ok k (by omega)]
              generalize b.putN (10 * (k : Int)) s10.size = pn
              have hinv' := HI.out.put hk HS.out
              have hap := HL.out.apart
              have hcm1 := HL.out.came.chg2 hc1 (by omega) (by omega)
              have ht1 := HL.out.tim.chg2 hc1 (by omega) (by omega)
              rw [if_neg hm0] at ht1
              have hb1 : Below w.heap.size w p1 := HL.out.below.trans (hc1.below hap.1 hap.2.1 HL.out.below.size)
              obtain ⟨d0, g0⟩ := hcm1.cell (show k < cs.length by omega)
              have hms := missB_set (show k < cs.length by omega)
              have hz1 := hc1.size
              have HX1 := Lib.hid hx1
              have HCM := Lib.hid hcm1
              have HT1 := Lib.hid ht1
              have HB1 := Lib.hid hb1
              have HI2 := Lib.hid hinv'
              have hkn : (k : Int) < (n : Int) := by omega
              clear hx1 hc1 hcm1 ht1 hb1 hinv' c0 f0 HBX HI
              obtain ⟨ms, hms2⟩ : ∃ ms, ms = missB (cs.set k true) := ⟨_, rfl⟩
              rw [← hms2] at hms
              have HMS := Lib.hid hms2
              clear hms2
              cases hck : cs[k] with
              | true =>
                rw [hck] at hcf
                cases hcf
              | false =>
                rw [hck] at d0 hms
                simp only [Bool.false_eq_true, if_false] at hms
                have hmi : ((missB cs : Nat) : Int) = (ms : Int) + 1 := by omega
                rw [hmi]
                go_wp2_with fail
                have hcs := HCM.out.set k true
                have hcc := (Chg.refl w4.heap.size p1).setCell k (.bool true)
                have hx2 := HX1.out.other hcc (by omega) (by omega) (by omega)
                have ht2 := HT1.out.other hcc (by omega)
                have hb2 := below_chg HB1.out (by omega) HCM.out.lt hcc
                have hz2 := hcc.size
                clear hcc HX1 HCM HT1 HB1 d0 g0
                generalize p1.setCell ⟨w4.heap.size, k, none⟩ (.bool true) = p2 at *
                refine (value_any _ _ (m1_fit n).1 _ ht2).mono ?_
                rintro e p3 ⟨rfl, hb3⟩
                rw [m1_v]
                replace hcs := hcs.below hb3
                replace hx2 := hx2.below hb3
                replace ht2 := ht2.below hb3
                replace hb2 := below_val hb2 hb2.size hb3
                have hz3 := hb3.size
                clear hb3
                go_wp2_with fail
                refine (next_any _ _ _ _ _ hx2).mono ?_
                rintro e p4 ⟨rfl, rfl⟩
                have hall := HI2.out.all
                rw [← HMS.out] at hall
                have hnx1 := HI2.out.ok.nxend
                rw [HI2.out.rd, HI2.out.ring] at hnx1
                have HMA := Lib.hid (m1_acked n ((i : Int) + 1) (b.put (10 * (k : Int)) s10.data.toList).nx)
                have hmsn : ms ≤ n := by omega
                by_cases hm2 : ms = 0
                · have e1 := hall.2 hm2
                  rw [e1]
                  subst hm2
                  have HCS := Lib.hid hcs
                  have HX2 := Lib.hid hx2
                  have HT2 := Lib.hid ht2
                  have HB2 := Lib.hid hb2
                  clear hcs hx2 ht2 hb2
                  go_wp2_with fail
                  refine (next_any _ _ _ _ _ HX2.out).mono ?_
                  rintro e p5 ⟨rfl, rfl⟩
                  rw [e1]
                  go_wp2_with fail
                  refine (acked_any _ _ ((i : Int) + 1) (10 * (n : Int)) (by unfold In64; omega) (m1_fit n) _ HT2.out).mono ?_
                  rintro e p6 ⟨rfl, ht6, hc6⟩
                  have hx6 := HX2.out.other hc6 (by omega) (by omega) (by omega)
                  have hcm6 := HCS.out.other hc6 (by omega)
                  have hb6 := below_chg HB2.out (by omega) HT2.out.lt hc6
                  have hz6 := hc6.size
                  have HL6 := Lib.hid (show RbL n B R w4.heap.size w2.heap.size w5.heap.size w (i + 1) (cs.set k true) p6 from ⟨⟨_, HI2.out, hx6⟩, hcm6, by rw [← HMS.out, if_pos rfl]; exact ht6, hb6, by rw [← HMS.out]; omega, by omega⟩)
                  clear ht6 hx6 hcm6 hb6 hc6
                  go_wp2_with fail
                  go_roundw
                  case rel => exact ⟨i + 1, cs.set k true, by rw [← HMS.out]; try rfl, by go_num, by go_num, HL6.out⟩
                  case measure => simp [intOf]; omega
                · have e1 : (b.put (10 * (k : Int)) s10.data.toList).nx ≠ 10 * (n : Int) := fun e => hm2 (hall.1 e)
                  have e2 : (b.put (10 * (k : Int)) s10.data.toList).nx < 10 * (n : Int) := by omega
                  have e3 : ((ms : Nat) : Int) ≠ 0 := by omega
                  have HNX := Lib.hid (next_any B R w5.heap.size _ _ hx2)
                  generalize hgx : (b.put (10 * (k : Int)) s10.data.toList).nx = nxv at *
                  have e4 : (nxv == 10 * (n : Int)) = false := by rw [beq_eq_false_iff_ne]; exact e1
                  have e5 : (((ms : Nat) : Int) == 0) = false := by rw [beq_eq_false_iff_ne]; exact e3
                  have HCS := Lib.hid hcs
                  have HX2 := Lib.hid hx2
                  have HT2 := Lib.hid ht2
                  have HB2 := Lib.hid hb2
                  clear hcs hx2 ht2 hb2
                  go_wp2_with fail
                  refine HNX.out.mono ?_
                  rintro e p5 ⟨rfl, rfl⟩
                  clear HNX
                  go_wp2_with fail
                  refine (acked_any _ _ ((i : Int) + 1) nxv (by unfold In64; omega) (m1_fit n) _ HT2.out).mono ?_
                  rintro e p6 ⟨rfl, ht6, hc6⟩
                  have hx6 := HX2.out.other hc6 (by omega) (by omega) (by omega)
                  have hcm6 := HCS.out.other hc6 (by omega)
                  have hb6 := below_chg HB2.out (by omega) HT2.out.lt hc6
                  have hz6 := hc6.size
                  rw [HMA.out, if_neg (by omega)] at ht6
                  have HL6 := Lib.hid (show RbL n B R w4.heap.size w2.heap.size w5.heap.size w (i + 1) (cs.set k true) p6 from ⟨⟨_, HI2.out, hx6⟩, hcm6, by rw [← HMS.out, if_neg hm2]; exact ht6, hb6, by rw [← HMS.out]; omega, by omega⟩)
                  clear ht6 hx6 hcm6 hb6 hc6
                  go_wp2_with fail
                  go_roundw
                  case rel => exact ⟨i + 1, cs.set k true, by rw [← HMS.out], by go_num, by go_num, HL6.out⟩
                  case measure => simp [intOf]; omega
        · go_wp2_with fail
          go_loopw [14, 15] (fun kv jv wj => wj = wr ∧ ∃ k j : Nat, kv = .int .i64 k ∧ jv = .int .i64 j ∧ k < n ∧ j ≤ n ∧ (∀ j', j' < j → ∀ h : j' < cs.length, cs[j'] = false → ∃ h2 : k < cs.length, cs[k] = false)) (fun _ jv _ => n - (intOf jv).toNat)
          case atStart => exact ⟨rfl, n - missB cs, 0, by rw [← hsub]; try rfl, rfl, hkk, Nat.zero_le _, fun j' h => absurd h (by omega)⟩
          case round =>
            obtain ⟨rfl, k, j, rfl, rfl, hk, hj, hjs⟩ := hrel
            by_cases hjn : j < n
            · obtain ⟨cj, -⟩ := HL.out.came.cell (show j < cs.length by omega)
              have hjn2 : (j : Int) < (n : Int) := by omega
              cases hcj : cs[j] with
              | true =>
                rw [hcj] at cj
                go_wp2_with fail
                go_roundw
                case rel =>
                  refine ⟨by first | rfl | trivial, k, j + 1, by go_num, by go_num, hk, by omega, fun j' h1 h2 h3 => ?_⟩
                  by_cases e : j' = j
                  · subst e; rw [hcj] at h3; cases h3
                  · exact hjs j' (by omega) h2 h3
                case measure => simp [intOf]; omega
              | false =>
                rw [hcj] at cj
                go_wp2_with fail
                go_roundw
                case rel => exact ⟨by first | rfl | trivial, j, j + 1, by go_num, by go_num, hjn, by omega, fun j' _ _ _ => ⟨by omega, hcj⟩⟩
                case measure => simp [intOf]; omega
            · have hcf : cs[k]'(by omega) = false := (hjs fk (by omega) hfk HFF.out).2
              have hjn2 : ¬ (j : Int) < (n : Int) := by omega
              go_wp2_with fail
              obtain ⟨c0, f0⟩ := HL.out.came.cell (show k < cs.length by omega)
              obtain ⟨s10, hs10⟩ : ∃ s : ByteArray, s = { data := #[48, 49, 50, 51, 52, 53, 54, 55, 56, 57] } := ⟨_, rfl⟩
              rw [← hs10]
              have hs1 : s10.size = 10 := by rw [hs10]; rfl
              have hs2 : s10.data.toList.length = 10 := by rw [hs10]; rfl
              have HS := Lib.hid hs2
              clear hs10 hs2
              refine (put_any B R w5.heap.size b (10 * (k : Int)) s10 wr HBX.out HI.out.ok HL.out.apart.2.2.2.2.2.2.2.2.2.2.2 (by omega)).mono ?_
              rintro e p1 ⟨rfl, hx1, hc1⟩
              rw [putE_ok k (by omega)]
              generalize b.putN (10 * (k : Int)) s10.size = pn
              have hinv' := HI.out.put hk HS.out
              have hap := HL.out.apart
              have hcm1 := HL.out.came.chg2 hc1 (by omega) (by omega)
              have ht1 := HL.out.tim.chg2 hc1 (by omega) (by omega)
              rw [if_neg hm0] at ht1
              have hb1 : Below w.heap.size w p1 := HL.out.below.trans (hc1.below hap.1 hap.2.1 HL.out.below.size)
              obtain ⟨d0, g0⟩ := hcm1.cell (show k < cs.length by omega)
              have hms := missB_set (show k < cs.length by omega)
              have hz1 := hc1.size
              have HX1 := Lib.hid hx1
              have HCM := Lib.hid hcm1
              have HT1 := Lib.hid ht1
              have HB1 := Lib.hid hb1
              have HI2 := Lib.hid hinv'
              have hkn : (k : Int) < (n : Int) := by omega
              clear hx1 hc1 hcm1 ht1 hb1 hinv' c0 f0 HBX HI
              obtain ⟨ms, hms2⟩ : ∃ ms, ms = missB (cs.set k true) := ⟨_, rfl⟩
              rw [← hms2] at hms
              have HMS := Lib.hid hms2
              clear hms2
              cases hck : cs[k] with
              | true =>
                rw [hck] at hcf
                cases hcf
              | false =>
                rw [hck] at d0 hms
                simp only [Bool.false_eq_true, if_false] at hms
                have hmi : ((missB cs : Nat) : Int) = (ms : Int) + 1 := by omega
                rw [hmi]
                go_wp2_with fail
                have hcs := HCM.out.set k true
                have hcc := (Chg.refl w4.heap.size p1).setCell k (.bool true)
                have hx2 := HX1.out.other hcc (by omega) (by omega) (by omega)
                have ht2 := HT1.out.other hcc (by omega)
                have hb2 := below_chg HB1.out (by omega) HCM.out.lt hcc
                have hz2 := hcc.size
                clear hcc HX1 HCM HT1 HB1 d0 g0
                generalize p1.setCell ⟨w4.heap.size, k, none⟩ (.bool true) = p2 at *
                refine (value_any _ _ (m1_fit n).1 _ ht2).mono ?_
                rintro e p3 ⟨rfl, hb3⟩
                rw [m1_v]
                replace hcs := hcs.below hb3
                replace hx2 := hx2.below hb3
                replace ht2 := ht2.below hb3
                replace hb2 := below_val hb2 hb2.size hb3
                have hz3 := hb3.size
                clear hb3
                go_wp2_with fail
                refine (next_any _ _ _ _ _ hx2).mono ?_
                rintro e p4 ⟨rfl, rfl⟩
                have hall := HI2.out.all
                rw [← HMS.out] at hall
                have hnx1 := HI2.out.ok.nxend
                rw [HI2.out.rd, HI2.out.ring] at hnx1
                have HMA := Lib.hid (m1_acked n ((i : Int) + 1) (b.put (10 * (k : Int)) s10.data.toList).nx)
                have hmsn : ms ≤ n := by omega
                by_cases hm2 : ms = 0
                · have e1 := hall.2 hm2
                  rw [e1]
                  subst hm2
                  have HCS := Lib.hid hcs
                  have HX2 := Lib.hid hx2
                  have HT2 := Lib.hid ht2
                  have HB2 := Lib.hid hb2
                  clear hcs hx2 ht2 hb2
                  go_wp2_with fail
                  refine (next_any _ _ _ _ _ HX2.out).mono ?_
                  rintro e p5 ⟨rfl, rfl⟩
                  rw [e1]
                  go_wp2_with fail
                  refine (acked_any _ _ ((i : Int) + 1) (10 * (n : Int)) (by unfold In64; omega) (m1_fit n) _ HT2.out).mono ?_
                  rintro e p6 ⟨rfl, ht6, hc6⟩
                  have hx6 := HX2.out.other hc6 (by omega) (by omega) (by omega)
                  have hcm6 := HCS.out.other hc6 (by omega)
                  have hb6 := below_chg HB2.out (by omega) HT2.out.lt hc6
                  have hz6 := hc6.size
                  have HL6 := Lib.hid (show RbL n B R w4.heap.size w2.heap.size w5.heap.size w (i + 1) (cs.set k true) p6 from ⟨⟨_, HI2.out, hx6⟩, hcm6, by rw [← HMS.out, if_pos rfl]; exact ht6, hb6, by rw [← HMS.out]; omega, by omega⟩)
                  clear ht6 hx6 hcm6 hb6 hc6
                  go_wp2_with fail
                  go_roundw
                  case rel => exact ⟨i + 1, cs.set k true, by rw [← HMS.out]; try rfl, by go_num, by go_num, HL6.out⟩
                  case measure => simp [intOf]; omega
                · have e1 : (b.put (10 * (k : Int)) s10.data.toList).nx ≠ 10 * (n : Int) := fun e => hm2 (hall.1 e)
                  have e2 : (b.put (10 * (k : Int)) s10.data.toList).nx < 10 * (n : Int) := by omega
                  have e3 : ((ms : Nat) : Int) ≠ 0 := by omega
                  have HNX := Lib.hid (next_any B R w5.heap.size _ _ hx2)
                  generalize hgx : (b.put (10 * (k : Int)) s10.data.toList).nx = nxv at *
                  have e4 : (nxv == 10 * (n : Int)) = false := by rw [beq_eq_false_iff_ne]; exact e1
                  have e5 : (((ms : Nat) : Int) == 0) = false := by rw [beq_eq_false_iff_ne]; exact e3
                  have HCS := Lib.hid hcs
                  have HX2 := Lib.hid hx2
                  have HT2 := Lib.hid ht2
                  have HB2 := Lib.hid hb2
                  clear hcs hx2 ht2 hb2
                  go_wp2_with fail
                  refine HNX.out.mono ?_
                  rintro e p5 ⟨rfl, rfl⟩
                  clear HNX
                  go_wp2_with fail
                  refine (acked_any _ _ ((i : Int) + 1) nxv (by unfold In64; omega) (m1_fit n) _ HT2.out).mono ?_
                  rintro e p6 ⟨rfl, ht6, hc6⟩
                  have hx6 := HX2.out.other hc6 (by omega) (by omega) (by omega)
                  have hcm6 := HCS.out.other hc6 (by omega)
                  have hb6 := below_chg HB2.out (by omega) HT2.out.lt hc6
                  have hz6 := hc6.size
                  rw [HMA.out, if_neg (by omega)] at ht6
                  have HL6 := Lib.hid (show RbL n B R w4.heap.size w2.heap.size w5.heap.size w (i + 1) (cs.set k true) p6 from ⟨⟨_, HI2.out, hx6⟩, hcm6, by rw [← HMS.out, if_neg hm2]; exact ht6, hb6, by rw [← HMS.out]; omega, by omega⟩)
                  clear ht6 hx6 hcm6 hb6 hc6
                  go_wp2_with fail
                  go_roundw
                  case rel => exact ⟨i + 1, cs.set k true, by rw [← HMS.out], by go_num, by go_num, HL6.out⟩
                  case measure => simp [intOf]; omega
theorem walk_RTORecvBuf (w : World) (m : Int) (hm : (Lit.int .u8 m).wf = true) (a : Option Addr) (len cap : Nat) (zs : List Int) (hrow : IsRow .u8 w a len cap zs) :
    Calls Try.prog 3 #[.int .u8 m, .slice a len cap] w fun r w' => r = .returned (.bool true) ∧ Below w.heap.size w w' := by
  obtain ⟨h1, h2⟩ := bounds_u8 hm
  obtain ⟨m, rfl⟩ := Int.eq_ofNat_of_zero_le h1
  exact recvbuf_walk w m (by omega) a len cap zs hrow
end Go.Proofs.Ytfeppkgcimgkeaa
