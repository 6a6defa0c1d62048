/- TCPStateTransitions: its walk. -/
import Derived.Test.YtclkcmidhhfdmaaGreatDoorUb2
import Derived.Test.YtclkcmidhhfdmaaGreatDoorUb37
import Derived.Test.YtclkcmidhhfdmaaGreatDoorTcTrn
import Derived.Test.YtclkcmidhhfdmaaGreatDoorTcRea
import Derived.Deep.RegionHeld3
import Derived.Deep.CutBlock
import Derived.Deep.DeepCutAuto
namespace Go.Proofs.YtclkcmidhhfdmaaGreatDoor
open Go.ChangeShapes Go.WideShapes Go.ChangeAt Go.RowKit Go.Shelf
/-- A cell of the block beside the pair is stored. -/
theorem Pz.setX {N X : Nat} {ty : TypeId} {cs : List Value} {t t1 : Ft} {q : Pr} {w W : World} (h : Pz N t w X (.cells cs.toArray ty) t1 q W) (hN : N ≤ X) (hty : ty ≠ 92) (i : Nat) (v : Value) : Pz N t w X (.cells (cs.set i v).toArray ty) t1 q (W.setCell ⟨X, i, none⟩ v) := by
  have hc : Chg X W (W.setCell ⟨X, i, none⟩ v) := (Chg.refl _ _).setCell i v
  have hk : SpanKept W (W.setCell ⟨X, i, none⟩ v) := .chg hc ⟨_, _, h.row⟩ hty
  have hf : PrFr (fun k => k = X) W (W.setCell ⟨X, i, none⟩ v) := ⟨hc.os, hc.tape, hc.output, hc.size, fun k hk hd => hc.block k hk hd, hk⟩
  refine ⟨⟨h.st.pa.apart hf (fun k e => by subst e; exact ⟨hN, h.nd⟩), h.st.fr.trans hf (fun k e => .inr (by subst e; exact h.lo)), h.st.sub, h.st.eB, h.st.eC⟩, ?_, h.nd, h.lo⟩
  rw [heap_setCell_same _ _ _ _ _ _ h.row]
  simp
theorem Pz.cell {N X : Nat} {ty : TypeId} {cs : List Value} {t t1 : Ft} {q : Pr} {w W : World} (h : Pz N t w X (.cells cs.toArray ty) t1 q W) (i : Nat) (v : Value) (hv : cs[i]? = some v) : W.cell? ⟨X, i, none⟩ = some v := by rw [cell_of_row _ _ _ _ _ _ h.row]; simpa using hv
theorem Pz.free {N X : Nat} {ty : TypeId} {cs : List Value} {t t1 : Ft} {q : Pr} {w W : World} (h : Pz N t w X (.cells cs.toArray ty) t1 q W) (i : Nat) : W.frozen? ⟨X, i, none⟩ = false := frozen_of_row _ _ _ _ _ h.row
def dv0 (x : Dv) : Dv := { x with tick := 0 }
theorem doD0 {P : Pr.Par} {p : Pr} {n : Int} (h : Pr.Al P p n) (hP : P.Ok) (x : Dv) (h0 : 0 ≤ n) (hn : n + 21 ≤ 5000) : (p.doD (dv0 x)).1 = p.opD x := by rw [(h.doD hP (dv0 x) h0 hn).1]; rfl
/-- Where the loops are: the pair of the last look, and what it has come to. -/
structure Lk (P : Pr.Par) (q p : Pr) (n : Int) (mv : Bool) : Prop where
  al : Pr.Al P p n
  gap : Pr.GapP q p
  sh : Pr.Sh1P q
  mv : mv = true → Pr.MvP q p
theorem Lk.op {P : Pr.Par} {q p : Pr} {n : Int} (h : Lk P q p n true) (x : Dv) : Lk P q (p.opD x) (n + 1) false := ⟨h.al.opD x, (h.mv rfl).op x, h.sh, fun h => nomatch h⟩
theorem Lk.tick {P : Pr.Par} {q p : Pr} {n : Int} {b : Bool} (h : Lk P q p n b) (hP : P.Ok) (h0 : 0 ≤ n) (hn : n + 1 ≤ 5000) : Lk P p p.tick (n + 1) true := ⟨h.al.tick h0 hn hP, (Pr.tick_mvP p).gap, h.gap.sh1 h.sh, fun _ => Pr.tick_mvP p⟩
theorem Lk.mono {P : Pr.Par} {q p : Pr} {n m : Int} {b c : Bool} (h : Lk P q p n b) (hm : n ≤ m) (hb : c = true → b = true) : Lk P q p m c := ⟨h.al.mono hm, h.gap, h.sh, fun hc => h.mv (hb hc)⟩
theorem Lk.far {P : Pr.Par} {q p : Pr} {n : Int} {b : Bool} (h : Lk P q p n b) (i : Bool) : (0 ≤ (q.sd i).c.st ∧ (q.sd i).c.st ≤ 9) ∧ (0 ≤ (p.sd i).c.st ∧ (p.sd i).c.st ≤ 9) ∧ reachV 3 (q.sd i).c.st (p.sd i).c.st ≤ 3 ∧ ((q.sd i).c.st = 0 → (p.sd i).c.st = 0) :=
  ⟨(h.sh i).1, ((h.gap.sh1 h.sh) i).1, h.gap.far h.sh i⟩
set_option maxRecDepth 100000 in
set_option maxHeartbeats 8000000 in
theorem walk_TCPStateTransitions (W : World) (x : Rw) (hx : x.In) (a1 : Option Addr) (len1 cap1 : Nat) (zs : List Int) (h1 : IsRow .i64 W a1 len1 cap1 zs) (a2 : Option Addr) (len2 cap2 : Nat) (xs : Nat → Dv) (h2 : IsDos W W.heap.size a2 len2 xs) (gl : Gl W) :
    Calls Tryz.prog 10 #[.agg (rwL x).toArray, .slice a1 len1 cap1, .slice a2 len2 cap2] W fun e W' => e = .returned (.bool true) ∧ Below W.heap.size W W' := by
  obtain ⟨K, hK⟩ : ∃ K : Nat, min (len1 : Int) 100 = (K : Int) := ⟨min len1 100, by omega⟩
  have hK1 : K ≤ len1 := by omega
  have hKc : K ≤ cap1 := Nat.le_trans hK1 (row_cap h1).1
  have hKm : (K : Int) ≤ (cap1 : Int) := by omega
  have hcm := (row_cap h1).2
  have hK100 : K ≤ 1000 := by omega
  have HKM := Lib.hid hK
  clear hK
  have HFL := Lib.hid (FatAt.of_row h1 hK1 hK100).2
  have HROW := Lib.hid h1
  clear h1
  have HX := Lib.hid hx
  have HG := Lib.hid gl
  have HD := Lib.hid h2
  clear h2
  clear hx gl
  have HR := Lib.hid (RowB.new W 23 (rwL x))
  have HB := Lib.hid ((Below.refl W.heap.size W).alloc (Nat.le_refl _) (.cells (rwL x).toArray 23))
  go_enter Tryz.func10, Tryz.ntmps10
  go_upto_region 1 with fail
  change Code.wp _ _ _ _ (W.alloc (.cells (rwL x).toArray 23))
  obtain ⟨W0, hW0⟩ : ∃ W0, W0 = W.heap.size := ⟨_, rfl⟩
  rw [← hW0] at HR ⊢
  clear hW0
  generalize W.alloc (.cells (rwL x).toArray 23) = w1 at HR HB ⊢
  go_wp2_with fail
  refine (tsane_any _ (HG.out.below (HB.out.mono HG.out.top))).mono ?_
  rintro e w2 ⟨rfl, hb⟩
  replace HR := Lib.hid (HR.out.below hb)
  replace HB := Lib.hid (HB.out.trans (hb.mono HB.out.size))
  clear hb
  go_upto_region 2 with fail
  refine wp_region_held_drew (S := (fun W' : World => RowB W0 23 (rwL x) W')) (by kernel_rfl) (HR.out) (fun hHeld => ?_)
  replace HR := Lib.hid (HR.out.below (Below.refl _ _).drew)
  replace HB := Lib.hid HB.out.drew
  generalize w2.drew = w3 at HR HB hHeld  ⊢
  have HMT := Lib.hid (show Calls Tryz.prog 16 #[.agg #[.int .i64 x.issA, .int .i64 x.issB, .int .i64 x.mss, .int .i64 x.roomA, .int .i64 x.roomB, .int .i64 x.keep], .slice a1 K cap1, .int .i64 300, .int .i64 300] w3 (MetOut x (zs.take K) 300 300 w3) from by have := tmeetP_any x (zs.take K) a1 cap1 300 300 w3 HX.out (HG.out.below (HB.out.mono HG.out.top)) (row_below HROW.out hK1 hK100 HB.out) (by decide) (by decide); rw [HFL.out] at this; exact this)
  refine wpL 0 (rwL x) (fun _ h => RowB.range h) Tryz.underlying23 (by kernel_rfl) ?_ (ha := by ((try simp only [Act.put, List.setIfInBounds_toArray, List.set_cons_zero, List.set_cons_succ, rwL]); (try rfl)))
  refine wpT 1 ?_
  refine wpT 2 ?_
  refine wpT 3 ?_
  refine wpT 4 (v := .int .i64 (K : Int)) ?_ (hy := by intro w hSw; (try dsimp only at hSw); go_simp; (rw [HKM.out]))
  refine wpT 5 ?_
  refine wpR 6 fun Kq hKq => ?_
  go_simp
  refine (HMT.out).mono ?_
  rintro e w4 ⟨t, rfl, hpa, hb⟩
  replace HR := Lib.hid (HR.out.below hb)
  have HPA := Lib.hid hpa
  have HNW := Lib.hid HB.out.size
  replace HB := Lib.hid (HB.out.trans (hb.mono HB.out.size))
  clear hb hpa
  go_simp
  refine hKq.out _ _ (HR.out) (fun hHeld2 => ?_)
  clear hKq Kq hHeld
  refine wpA ?_
  have hHeld := hHeld2
  clear hHeld2
  refine wpT 7 ?_
  refine wpT 8 ?_
  refine wpT 9 ?_
  refine wpT 10 ?_
  refine wpT 11 ?_
  refine wpAnyH_done (by kernel_rfl) ?_ _
  clear hHeld HMT
  obtain ⟨K2, hK2⟩ : ∃ K2, K2 = min len2 30 := ⟨_, rfl⟩
  have hl2 : len2 ≤ maxLen := HD.out.1
  have HAL := Lib.hid (al0_meet x (zs.take K) 300 300 (by rw [HFL.out]; exact hK100) (by decide) (by decide))
  have HP := Lib.hid (parX_ok x)
  have HSH := Lib.hid (meet_sh1 x (zs.take K) 300 300)
  generalize meetP x (zs.take K) 300 300 = p0 at HPA HAL HSH
  have HLK := Lib.hid (show Lk (parX x) p0 p0 0 true from ⟨HAL.out, (Pr.MvP.refl p0).gap, HSH.out, fun _ => .refl p0⟩)
  clear HAL HSH
  obtain ⟨NA, hNA⟩ : ∃ NA, NA = w4.heap.size := ⟨_, rfl⟩
  have HNA := Lib.hid hNA
  clear hNA
  go_upto_region 5 with fail
  go_cut [10] from 30 to 44 (fun v wx => v = .pointer (some ⟨NA, 0, none⟩) ∧ Below w4.heap.size w4 wx ∧ RowB NA 55 [.int .i64 p0.a.c.st, .int .i64 p0.b.c.st] wx)
  case first =>
    have z0 := HPA.out.cell 0 (.pointer (some ⟨t.fa.C, 0, none⟩)) rfl
    have z1 := HPA.out.cell 6 (.pointer (some ⟨t.fb.C, 0, none⟩)) rfl
    go_region_held3 (fun W : World => W.cell? ⟨t.B, 0, none⟩ = some (.pointer (some ⟨t.fa.C, 0, none⟩)) ∧ W.cell? ⟨t.B, 6, none⟩ = some (.pointer (some ⟨t.fb.C, 0, none⟩))) (go_keep) (first | (go_at_call 21; (with_reducible refine (tstate_any t.fa p0.a.c _ (HPA.out.a.below (by first | exact (Below.refl _ _).drew | exact ((Below.refl _ _).drew).alloc (Nat.le_refl _) _ | exact ((Below.refl _ _).alloc (Nat.le_refl _) _).drew))).mono ?_; rintro e wq ⟨rfl, rfl⟩)) | (go_at_call 21; (with_reducible refine (tstate_any t.fb p0.b.c _ (HPA.out.b.below (by first | exact (Below.refl _ _).drew | exact ((Below.refl _ _).drew).alloc (Nat.le_refl _) _ | exact ((Below.refl _ _).alloc (Nat.le_refl _) _).drew))).mono ?_; rintro e wq ⟨rfl, rfl⟩)))
    all_goals
      go_wp2_with fail
      go_meet
      case rel => exact ⟨by rw [HNA.out], ((Below.refl w4.heap.size w4).alloc (Nat.le_refl _) _).drew, by rw [HNA.out]; exact heap_alloc_new _ _⟩
  case rest =>
    obtain ⟨rfl, h1, h2⟩ := hcut
    have HZ := Lib.hid (show Pz w3.heap.size t w4 NA (.cells [.int .i64 p0.a.c.st, .int .i64 p0.b.c.st].toArray 55) t p0 wc from ⟨HPA.out.bel h1, h2, fun e => by have := (HPA.out.inD _ e).1; rw [HNA.out] at this; exact Nat.lt_irrefl _ this, by rw [HNA.out]; exact Nat.le_refl _⟩)
    have HNA2 := Lib.hid (show w3.heap.size ≤ NA from by rw [HNA.out]; exact HPA.out.big)
    clear h1 h2 HNA
    go_wp2_with fail
    go_loopg [11] K2 (fun g iv wr => ∃ (k : Nat) (tk : Ft) (q p : Pr), iv = .int .i64 (k : Int) ∧ g + k = K2 ∧ Pz w3.heap.size t w4 NA (.cells [.int .i64 (q.sd false).c.st, .int .i64 (q.sd true).c.st].toArray 55) tk p wr ∧ Lk (parX x) q p (21 * (k : Int)) true)
    case atStart => exact ⟨0, t, p0, p0, rfl, by omega, HZ.out, HLK.out⟩
    case round =>
      obtain ⟨k, tk, q, p, rfl, hgk, hst, hlk⟩ := hrel
      clear HZ HLK
      have HZ := Lib.hid hst
      have HLK := Lib.hid hlk
      have HBW := Lib.hid (HB.out.trans (hst.st.fr.below HB.out.size (fun kk hkk => Nat.le_trans HNW.out (HPA.out.lo kk hkk))))
      clear hst hlk
      by_cases hk : k < K2
      · have hk2 : (k : Int) < (len2 : Int) := by omega
        have hk30 : (k : Int) < 30 := by omega
        obtain ⟨b, off, rfl, hblt, hcs⟩ := (HD.out.below HBW.out).2 (by omega)
        obtain ⟨⟨d0, d1, d2, d3⟩, hin⟩ := hcs k (by omega)
        clear hcs
        go_upto_region 10 with fail
        clear d0 d1 d2 d3
        change Code.wp _ _ _ _ (wr.alloc (.cells (doL (xs k)).toArray 32))
        obtain ⟨YB, hYB⟩ : ∃ YB, YB = wr.heap.size := ⟨_, rfl⟩
        have HYR := Lib.hid (show RowB YB 32 (doL (xs k)) (wr.alloc (.cells (doL (xs k)).toArray 32)) from by rw [hYB]; exact RowB.new _ _ _)
        have HYB := Lib.hid ((Below.refl wr.heap.size wr).alloc (Nat.le_refl _) (.cells (doL (xs k)).toArray 32))
        have HYE := Lib.hid hYB
        rw [← hYB]
        clear hYB
        generalize wr.alloc (.cells (doL (xs k)).toArray 32) = w5 at HYR HYB ⊢
        have e3 := HYR.out.cell 3 (.int .i64 (xs k).tick) rfl
        have f3 := HYR.out.free 3
        obtain ⟨many, hmany⟩ : ∃ many, many = pickV (xs k).tick 20 := ⟨_, rfl⟩
        have hmb := pickV_bd (xs k).tick 20 (by decide)
        rw [← hmany] at hmb
        have HMY := Lib.hid hmany
        clear hmany
        obtain ⟨hm0, hm1⟩ := hmb
        have HIN := Lib.hid hin
        clear hin
        go_wp2_with fail
        refine (tpick_any (xs k).tick 20 _ HIN.out.2.2.2 (by decide) (by decide)).mono ?_
        rintro e wq ⟨rfl, rfl⟩
        rw [← HMY.out]
        go_upto_region 12 with fail
        have HYR2 := Lib.hid (show RowB YB 32 (doL (dv0 (xs k))) (w5.setCell ⟨YB, 3, none⟩ (.int .i64 0)) from HYR.out.set 3 (.int .i64 0))
        have HYB2 := Lib.hid (HYB.out.setCell (p := ⟨YB, 3, none⟩) (by rw [HYE.out]; exact Nat.le_refl _) (.int .i64 0))
        generalize w5.setCell ⟨YB, 3, none⟩ (.int .i64 0) = w6 at HYR2 HYB2 ⊢
        clear HYR HYB HYE e3 f3
        have HZ6 := Lib.hid (HZ.out.bel HYB2.out)
        clear HYB2
        have g0 := HYR2.out.cell 0 _ rfl
        have g1 := HYR2.out.cell 1 _ rfl
        have g2 := HYR2.out.cell 2 _ rfl
        have g3 := HYR2.out.cell 3 _ rfl
        go_wp2_with fail
        have HDO := tdo_any w3.heap.size tk (parX x) p (21 * (k : Int)) (dv0 (xs k)) w6 HZ6.out.st.pa HLK.out.al HP.out (by omega) (by omega) ⟨HIN.out.1, HIN.out.2.1, HIN.out.2.2.1, in0⟩
        rw [HZ6.out.st.eB] at HDO
        refine HDO.mono ?_
        rintro e w7 ⟨rfl, t7, k7⟩
        rw [doD0 HLK.out.al HP.out (xs k) (by omega) (by omega)] at k7
        have HZ7 := Lib.hid (HZ6.out.step k7)
        clear HDO k7 g0 g1 g2 g3
        have HL7 := Lib.hid (HLK.out.op (xs k))
        obtain ⟨mn, hmn⟩ : ∃ mn : Nat, many = (mn : Int) := ⟨many.toNat, by omega⟩
        subst hmn
        generalize p.opD (xs k) = p7 at HZ7 HL7
        go_wp2_with fail
        go_loopg [14] (mn + 1) (fun g kv wr => ∃ (j : Nat) (tj : Ft) (q' p' : Pr), kv = .int .i64 (j : Int) ∧ g + j = mn + 1 ∧ Pz w3.heap.size t w4 NA (.cells [.int .i64 (q'.sd false).c.st, .int .i64 (q'.sd true).c.st].toArray 55) tj p' wr ∧ Lk (parX x) q' p' (21 * (k : Int) + 1 + (j : Int)) (decide (0 < j)))
        case atStart => exact ⟨0, t7, q, p7, rfl, by omega, HZ7.out, by have h := HL7.out; rw [show 21 * (k : Int) + 1 + ((0 : Nat) : Int) = 21 * (k : Int) + 1 by omega]; exact h⟩
        case round =>
          obtain ⟨j, tj, q', p', rfl, hgj, hst, hlk⟩ := hrel
          have HZJ := Lib.hid hst
          have HLJ := Lib.hid hlk
          clear hst hlk HZ7 HL7
          by_cases hjk : j < mn + 1
          · have hjm : (j : Int) ≤ (mn : Int) := by omega
            go_wp2_with fail
            go_loopg [15] 2 (fun g sv wr => ∃ (i : Nat), sv = .int .i64 (i : Int) ∧ g + i = 2 ∧ Pz w3.heap.size t w4 NA (.cells (if i = 0 then [.int .i64 (q'.sd false).c.st, .int .i64 (q'.sd true).c.st] else if i = 1 then [.int .i64 (p'.sd false).c.st, .int .i64 (q'.sd true).c.st] else [.int .i64 (p'.sd false).c.st, .int .i64 (p'.sd true).c.st] : List Value).toArray 55) tj p' wr)
            case atStart => exact ⟨0, rfl, rfl, HZJ.out⟩
            case round =>
              obtain ⟨i, rfl, hgi, hst⟩ := hrel
              have HZS0 := Lib.hid hst
              clear hst HZJ
              have hi3 : i = 0 ∨ i = 1 ∨ i = 2 := by omega
              rcases hi3 with rfl | rfl | rfl
              · have HZS := Lib.hid (show Pz w3.heap.size t w4 NA (.cells [.int .i64 (q'.sd false).c.st, .int .i64 (q'.sd true).c.st].toArray 55) tj p' wr from HZS0.out)
                clear HZS0
                have z0 := HZS.out.st.cell 0 (.pointer (some ⟨tj.fa.C, 0, none⟩)) rfl
                obtain ⟨r1, r2, r3, r4⟩ := HLJ.out.far false
                go_wp2_with fail
                refine (tstate_any tj.fa p'.a.c _ HZS.out.st.pa.a).mono ?_
                rintro e wq ⟨rfl, rfl⟩
                clear z0
                obtain ⟨b1, hb1⟩ : ∃ b1, b1 = (p'.sd false).c.st := ⟨_, rfl⟩
                obtain ⟨a9, ha9⟩ : ∃ a9, a9 = (q'.sd false).c.st := ⟨_, rfl⟩
                rw [show p'.a.c.st = b1 from hb1.symm]
                have z1 := HZS.out.cell 0 (.int .i64 a9) (by rw [ha9]; rfl)
                have z2 := HZS.out.free 0
                have HRE := Lib.hid (treach_any 3 a9 b1 wr (Nat.le_refl 3) (by rw [ha9]; exact r1) (by rw [hb1]; exact r2) HZS.out.st.pa.a.gl.tri)
                rw [← ha9, ← hb1] at r3 r4
                have HBE := Lib.hid hb1
                clear hb1 ha9 r1 r2
                generalize reachV 3 a9 b1 = rv at r3 HRE
                go_wp2_with fail
                refine HRE.out.mono ?_
                rintro e w8 ⟨rfl, hb8⟩
                have HZ8 := Lib.hid (HZS.out.bel hb8)
                replace z1 := (hb8.cell (p := ⟨NA, 0, none⟩) (block_lt_of_cell z1)).trans z1
                replace z2 := HZ8.out.free 0
                clear hb8 HRE HZS
                have hrv : ¬ 3 < rv := by omega
                by_cases ha0 : a9 = 0
                · have hb0 : b1 = 0 := r4 ha0
                  subst hb0
                  subst ha0
                  clear r4
                  go_wp2_with fail
                  have HZ9 := Lib.hid (show Pz w3.heap.size t w4 NA (.cells [.int .i64 (p'.sd false).c.st, .int .i64 (q'.sd true).c.st].toArray 55) tj p' (w8.setCell ⟨NA, 0, none⟩ (.int .i64 0)) from by rw [HBE.out]; exact HZ8.out.setX HNA2.out (by decide) 0 (.int .i64 (p'.sd false).c.st))
                  go_roundg (gk - 1)
                  case measure => omega
                  case rel => exact ⟨1, by first | rfl | go_num, by omega, by rw [if_neg (by decide), if_pos rfl]; exact HZ9.out⟩
                · have han : (a9 == 0) = false := beq_eq_false_iff_ne.2 ha0
                  clear r4
                  go_wp2_with fail
                  have HZ9 := Lib.hid (show Pz w3.heap.size t w4 NA (.cells [.int .i64 (p'.sd false).c.st, .int .i64 (q'.sd true).c.st].toArray 55) tj p' (w8.setCell ⟨NA, 0, none⟩ (.int .i64 b1)) from by rw [HBE.out]; exact HZ8.out.setX HNA2.out (by decide) 0 (.int .i64 (p'.sd false).c.st))
                  go_roundg (gk - 1)
                  case measure => omega
                  case rel => exact ⟨1, by first | rfl | go_num, by omega, by rw [if_neg (by decide), if_pos rfl]; exact HZ9.out⟩
              · have HZS := Lib.hid (show Pz w3.heap.size t w4 NA (.cells [.int .i64 (p'.sd false).c.st, .int .i64 (q'.sd true).c.st].toArray 55) tj p' wr from HZS0.out)
                clear HZS0
                have z0 := HZS.out.st.cell 6 (.pointer (some ⟨tj.fb.C, 0, none⟩)) rfl
                obtain ⟨r1, r2, r3, r4⟩ := HLJ.out.far true
                go_wp2_with fail
                refine (tstate_any tj.fb p'.b.c _ HZS.out.st.pa.b).mono ?_
                rintro e wq ⟨rfl, rfl⟩
                clear z0
                obtain ⟨b1, hb1⟩ : ∃ b1, b1 = (p'.sd true).c.st := ⟨_, rfl⟩
                obtain ⟨a9, ha9⟩ : ∃ a9, a9 = (q'.sd true).c.st := ⟨_, rfl⟩
                rw [show p'.b.c.st = b1 from hb1.symm]
                have z1 := HZS.out.cell 1 (.int .i64 a9) (by rw [ha9]; rfl)
                have z2 := HZS.out.free 1
                have HRE := Lib.hid (treach_any 3 a9 b1 wr (Nat.le_refl 3) (by rw [ha9]; exact r1) (by rw [hb1]; exact r2) HZS.out.st.pa.a.gl.tri)
                rw [← ha9, ← hb1] at r3 r4
                have HBE := Lib.hid hb1
                clear hb1 ha9 r1 r2
                generalize reachV 3 a9 b1 = rv at r3 HRE
                go_wp2_with fail
                refine HRE.out.mono ?_
                rintro e w8 ⟨rfl, hb8⟩
                have HZ8 := Lib.hid (HZS.out.bel hb8)
                replace z1 := (hb8.cell (p := ⟨NA, 1, none⟩) (block_lt_of_cell z1)).trans z1
                replace z2 := HZ8.out.free 1
                clear hb8 HRE HZS
                have hrv : ¬ 3 < rv := by omega
                by_cases ha0 : a9 = 0
                · have hb0 : b1 = 0 := r4 ha0
                  subst hb0
                  subst ha0
                  clear r4
                  go_wp2_with fail
                  have HZ9 := Lib.hid (show Pz w3.heap.size t w4 NA (.cells [.int .i64 (p'.sd false).c.st, .int .i64 (p'.sd true).c.st].toArray 55) tj p' (w8.setCell ⟨NA, 1, none⟩ (.int .i64 0)) from by rw [HBE.out]; exact HZ8.out.setX HNA2.out (by decide) 1 (.int .i64 (p'.sd true).c.st))
                  go_roundg (gk - 1)
                  case measure => omega
                  case rel => exact ⟨2, by first | rfl | go_num, by omega, by rw [if_neg (by decide), if_neg (by decide)]; exact HZ9.out⟩
                · have han : (a9 == 0) = false := beq_eq_false_iff_ne.2 ha0
                  clear r4
                  go_wp2_with fail
                  have HZ9 := Lib.hid (show Pz w3.heap.size t w4 NA (.cells [.int .i64 (p'.sd false).c.st, .int .i64 (p'.sd true).c.st].toArray 55) tj p' (w8.setCell ⟨NA, 1, none⟩ (.int .i64 b1)) from by rw [HBE.out]; exact HZ8.out.setX HNA2.out (by decide) 1 (.int .i64 (p'.sd true).c.st))
                  go_roundg (gk - 1)
                  case measure => omega
                  case rel => exact ⟨2, by first | rfl | go_num, by omega, by rw [if_neg (by decide), if_neg (by decide)]; exact HZ9.out⟩
              · have HZS := Lib.hid (show Pz w3.heap.size t w4 NA (.cells [.int .i64 (p'.sd false).c.st, .int .i64 (p'.sd true).c.st].toArray 55) tj p' wr from HZS0.out)
                clear HZS0
                go_wp2_with fail
                have hbd := (HLJ.out.al).bds (by omega)
                have HTK := ttickP_any w3.heap.size tj p' wr _ _ HZS.out.st.pa HLJ.out.al.run.1 hbd.1 hbd.2 HLJ.out.al.ml (by have := HLJ.out.al.run.2; omega)
                rw [HZS.out.st.eB] at HTK
                refine HTK.mono ?_
                rintro e w9 ⟨rfl, t9, k9⟩
                have HZ9 := Lib.hid (HZS.out.step k9)
                clear HTK k9 hbd
                have HL9 := Lib.hid (HLJ.out.tick HP.out (by omega) (by omega))
                go_wp2_with fail
                go_roundg (mn + 1 - (j + 1))
                case measure => omega
                case rel => exact ⟨j + 1, t9, p', p'.tick, by first | rfl | go_num | (have e : wrap64 ((j : Int) + 1) = ((j + 1 : Nat) : Int) := (by unfold wrap64; omega); rw [e]), by omega, HZ9.out, by have h := HL9.out; rw [show 21 * (k : Int) + 1 + ((j + 1 : Nat) : Int) = 21 * (k : Int) + 1 + (j : Int) + 1 by omega]; exact h.mono (Int.le_refl _) (fun _ => rfl)⟩
          · have hjm : ¬ (j : Int) ≤ (mn : Int) := by omega
            go_wp2_with fail
            go_roundg (K2 - (k + 1))
            case measure => omega
            case rel => exact ⟨k + 1, tj, q', p', by first | rfl | go_num | (have e : wrap64 ((k : Int) + 1) = ((k + 1 : Nat) : Int) := (by unfold wrap64; omega); rw [e]), by omega, HZJ.out, (HLJ.out.mono (by omega) (fun _ => decide_eq_true (by omega)))⟩
      · have hge : k = K2 := by omega
        by_cases hk2 : (k : Int) < (len2 : Int)
        · have hk30 : ¬ (k : Int) < 30 := by omega
          go_wp2_with fail
          go_ret
          exact ⟨rfl, HBW.out⟩
        · go_wp2_with fail
          go_ret
          exact ⟨rfl, HBW.out⟩
end Go.Proofs.YtclkcmidhhfdmaaGreatDoor
