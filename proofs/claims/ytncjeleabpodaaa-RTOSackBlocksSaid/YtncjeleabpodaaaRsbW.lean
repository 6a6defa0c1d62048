/- RTOSackBlocks: its walk. -/
import Derived.Test.YtncjeleabpodaaaRsLen
import Derived.Test.YtncjeleabpodaaaRgSame
import Derived.Test.YtncjeleabpodaaaScLs
import Derived.Test.YtncjeleabpodaaaScAckO
import Derived.Test.YtncjeleabpodaaaRfVal
import Derived.Deep.LoopGhost
import Derived.Deep.RegionHeld3
namespace Go.Proofs.Ytncjeleabpodaaa
open Go.RowKit Go.Shelf
theorem sbSent (s : Sc) {nx : Int} (h1 : s.next ≤ nx) (h2 : nx ≤ 1099511627776) : s.sentE nx = 0 ∧ (s.sent nx).next = nx ∧ (s.sent nx).una = s.una := by
  have hb : s.sentB nx = true := by unfold Sc.sentB; rw [decide_eq_true_iff]; exact ⟨h1, h2⟩
  unfold Sc.sentE Sc.sent
  rw [if_pos hb, if_pos hb]
  exact ⟨rfl, rfl, rfl⟩
theorem sbAck {s : Sc} (h : s.Ok) {u bf nx : Int} (h0 : 0 ≤ u) (h1 : u ≤ s.next) (h2 : 0 ≤ bf) (h3 : bf < nx) (h4 : nx ≤ s.next) : s.ackE u [(bf, nx)] = 0 ∧ (s.acked u [(bf, nx)]).Ok ∧ (s.acked u [(bf, nx)]).next = s.next := by
  have hb : s.ackB u [(bf, nx)] = true := Sc.ackB_iff.2 ⟨⟨h0, h1⟩, fun x hx => by rw [List.mem_singleton.1 hx]; exact Sc.inB_iff.2 ⟨h2, h3, h4⟩⟩
  exact ⟨by unfold Sc.ackE; rw [if_pos hb], h.acked _ _, by unfold Sc.acked; rw [if_pos hb]; rfl⟩
theorem sb_ne (p : Int) {a b : Int} (h0 : 0 ≤ a) (h1 : a < b) (h2 : b ≤ 1000000) : addV p a ≠ addV p b := by unfold addV; omega
theorem sb_inl {v : World} {B : Nat} {a b : Int} (h : B < v.heap.size) : InL B (some ⟨v.heap.size, 0, none⟩) [(a, b)] (v.alloc (.cells #[.int .i64 a, .int .i64 b] 51)) :=
  ⟨⟨by simp, fun _ => ⟨v.heap.size, 0, rfl, by simp, fun i hi => by obtain rfl : i = 0 := (by simpa using hi); exact ⟨(At.new (W := v) (i := 0) (v := .int .i64 a) (vs := #[.int .i64 a, .int .i64 b]) 51 rfl rfl).1, (At.new (W := v) (i := 1) (v := .int .i64 b) (vs := #[.int .i64 a, .int .i64 b]) 51 rfl rfl).1⟩⟩⟩, fun _ ad e => by cases e; dsimp only; omega⟩
theorem canonF_len2 {e n : Int} {L : List Sp} (h : canonF e L = true) (hm : ∀ i, Mem i L → i < n) : (L.length : Int) ≤ max 0 (n - e) := by
  induction L generalizing e with
  | nil => simp; omega
  | cons x l ih =>
    rw [canonF_cons] at h
    have h1 := ih h.2 (fun i hi => hm i (mem_cons.2 (.inr hi)))
    have h2 := hm (x.2 - 1) (mem_cons.2 (.inl (by omega)))
    rw [List.length_cons]
    omega
/-- The acknowledgement with one block. -/
def sbSg (q q1 q2 : Int) : Sg := ⟨1, 2, 0, q, false, false, false, true, 0, 0, false, [(q1, q2)], []⟩
theorem sbSg_ok {q q1 q2 : Int} (h : 0 ≤ q ∧ q ≤ 4294967295) (h1 : 0 ≤ q1 ∧ q1 ≤ 4294967295) (h2 : 0 ≤ q2 ∧ q2 ≤ 4294967295) (hne : q1 ≠ q2) : (sbSg q q1 q2).Ok := by
  refine ⟨by simp [sbSg], by simp [sbSg], by simp [sbSg], h, by simp [sbSg], by simp [sbSg], by simp [sbSg], by simp [sbSg], by simp [sbSg], by simp [sbSg], by simp [sbSg], ?_, by simp [sbSg], by simp [sbSg]⟩
  intro x hx
  rw [show (sbSg q q1 q2).bl = [(q1, q2)] from rfl, List.mem_singleton] at hx
  subst hx
  exact ⟨h1, h2, hne⟩
theorem sb_enc (q q1 q2 : Int) (ok : (sbSg q q1 q2).Ok) (M : Nat) (W : World) (h0 : W.cell? ⟨M, 0, none⟩ = some (.int .i64 q1)) (h1 : W.cell? ⟨M, 1, none⟩ = some (.int .i64 q2)) :
    Calls Try.prog 17 #[.int .i64 1, .int .i64 2, .agg #[.int .i64 1, .int .i64 2, .int .i64 0, .int .i64 q, .bool false, .bool false, .bool false, .bool true, .int .i64 0, .int .i64 0, .bool false, .slice (some ⟨M, 0, none⟩) 1 1, .string ⟨#[]⟩]] W fun e w' => e = .returned (.tuple #[.string ⟨((sbSg q q1 q2).encL 1 2).toArray⟩, .int .i64 0]) ∧ Below W.heap.size W w' :=
  segenc_any 1 2 (sbSg q q1 q2) W.heap.size (some ⟨M, 0, none⟩) 1 ⟨#[]⟩ W (by omega) (by omega) ok rfl ⟨by simp [sbSg], fun _ => ⟨M, 0, rfl, block_lt_of_cell h0, fun i hi => by obtain rfl : i = 0 := (by simpa [sbSg] using hi); exact ⟨h0, h1⟩⟩⟩ (Nat.le_refl _)
theorem sb_dec (q q1 q2 : Int) (ok : (sbSg q q1 q2).Ok) (t : ByteArray) (ht : t = ⟨((sbSg q q1 q2).encL 1 2).toArray⟩) (W : World) :
    Calls Try.prog 18 #[.int .i64 1, .int .i64 2, .string t] W fun e w' => ∃ g c S, e = .returned (.tuple #[.agg #[.int .i64 1, .int .i64 2, .int .i64 0, .int .i64 q, .bool false, .bool false, .bool false, .bool true, .int .i64 0, .int .i64 0, .bool false, .slice (some ⟨g, 0, none⟩) 1 c, .string S], .int .i64 0]) ∧ W.heap.size ≤ g ∧ w'.cell? ⟨g, 0, none⟩ = some (.int .i64 q1) ∧ w'.cell? ⟨g, 1, none⟩ = some (.int .i64 q2) ∧ Below W.heap.size W w' :=
  (segdec_any 1 2 (sbSg q q1 q2) t W (by omega) (by omega) ok ht).mono (by
    rintro e w' ⟨a, cap, S, he, -, ho, hb⟩
    rcases ho.cases with ⟨h, h2⟩ | ⟨g, c, h, hg, hl, hc, hm⟩
    · cases h2
    · have hcs := World.ownsRow.cells ho (g := g) (by rw [h]; rfl)
      cases h
      refine ⟨g, cap, S, he, hg, ?_, ?_, hb⟩
      · have := hcs 0 _ rfl; simpa [Addr.add] using this
      · have := hcs 1 _ rfl; simpa [Addr.add] using this)
set_option maxHeartbeats 6400000 in
set_option maxRecDepth 100000 in
theorem walk_RTOSackBlocks (w : World) (first : Int) (_hx : (Lit.int .i64 first).wf = true) (a : Option Addr) (len cap : Nat) (zs : Nat → Int × Int × Int) (hrow : IsTriples w a len zs) :
    Calls Try.prog 10 #[.int .i64 first, .slice a len cap] w fun r w' => r = .returned (.bool true) ∧ Below w.heap.size w w' := by
  have hml := hrow.1
  unfold maxLen at hml
  have HROW := Lib.hid hrow
  clear hrow
  go_enter Try.func10, Try.ntmps10
  go_wp2_with fail
  refine (examples_any _).mono ?_
  rintro e w1 ⟨rfl, hB⟩
  go_wp2_with fail
  refine (seqadd_any first 0 _).mono ?_
  rintro e w9 ⟨rfl, rfl⟩
  generalize addV first 0 = p
  go_wp2_with fail
  refine (scnew_any _).mono ?_
  rintro e w2 ⟨rfl, hw⟩
  have HNA := Lib.hid (fun lb W (hb : Below w2.heap.size w2 W) (h1 : w1.heap.size < lb) (h2 : lb ≤ W.heap.size) => (ScAt.new (lb := lb) hw).2 W hb h1 h2)
  have hNs : w.heap.size ≤ w1.heap.size := hB.size
  have hz2 : w1.heap.size < w2.heap.size := (ScAt.new (lb := 0) hw).1
  replace hB := below_alloc_eq hB hNs hw
  clear hw
  go_wp2_with fail
  refine (scnew_any _).mono ?_
  rintro e w3 ⟨rfl, hw⟩
  have HNR := Lib.hid (fun lb W (hb : Below w3.heap.size w3 W) (h1 : w2.heap.size < lb) (h2 : lb ≤ W.heap.size) => (ScAt.new (lb := lb) hw).2 W hb h1 h2)
  have hz3 : w2.heap.size < w3.heap.size := (ScAt.new (lb := 0) hw).1
  have h23 : Below w2.heap.size w2 w3 := by rw [hw]; exact (Below.refl _ _).alloc (Nat.le_refl _) _
  replace hB := hB.trans (h23.mono hB.size)
  clear hw
  go_wp2_with fail
  refine (new_any _).mono ?_
  rintro e w4 ⟨rfl, hw⟩
  have ht := Tim.new_eq hw
  have h34 : Below w3.heap.size w3 w4 := below_alloc_eq (Below.refl _ _) (Nat.le_refl _) hw
  replace hB := hB.trans (h34.mono hB.size)
  have hz4 := ht.lt
  clear hw
  go_wp2_with fail
  refine (new_any _).mono ?_
  rintro e w5 ⟨rfl, hw⟩
  have hu := Tim.new_eq hw
  have h45 : Below w4.heap.size w4 w5 := below_alloc_eq (Below.refl _ _) (Nat.le_refl _) hw
  replace hB := hB.trans (h45.mono hB.size)
  replace ht := ht.alloc_eq hw
  have hz5 := hu.lt
  clear hw
  obtain ⟨lb, hlb⟩ : ∃ lb, lb = w5.heap.size := ⟨_, rfl⟩
  have hs := HNA.out lb w5 (h23.trans ((h34.mono (by omega)).trans (h45.mono (by omega)))) (by omega) (by omega)
  have hr := HNR.out lb w5 (h34.trans (h45.mono (by omega))) (by omega) (by omega)
  obtain ⟨Bs, hBs⟩ : ∃ Bs, Bs = w1.heap.size := ⟨_, rfl⟩
  obtain ⟨Br, hBr⟩ : ∃ Br, Br = w2.heap.size := ⟨_, rfl⟩
  obtain ⟨Bt, hBt⟩ : ∃ Bt, Bt = w3.heap.size := ⟨_, rfl⟩
  obtain ⟨Bu, hBu⟩ : ∃ Bu, Bu = w4.heap.size := ⟨_, rfl⟩
  have o1 : Bs < Br := by omega
  have o2 : Br < Bt := by omega
  have o3 : Bt < Bu := by omega
  have o4 : Bu < lb := by omega
  have hNs : w.heap.size ≤ Bs := by omega
  have hNr : w.heap.size ≤ Br := by omega
  have hNt : w.heap.size ≤ Bt := by omega
  have hNu : w.heap.size ≤ Bu := by omega
  rw [← hBs] at hs ⊢
  rw [← hBr] at hr ⊢
  rw [← hBt] at ht ⊢
  rw [← hBu] at hu ⊢
  have HS := Lib.hid (show ScAt Bs lb sc0 w5 from hs)
  have HR := Lib.hid (show ScAt Br lb sc0 w5 from hr)
  have HT := Lib.hid ht
  have HU := Lib.hid hu
  have HB := Lib.hid hB
  clear hs hr ht hu hB HNA HNR h23 h34 h45 hz2 hz3 hz4 hz5 hBs hBr hBt hBu hlb
  go_wp2_with fail
  go_loopg [11, 12, 13] 20 (fun g nv uv iv wr => ∃ (k : Nat) (now una : Int) (s : Sc) (t : Tm), iv = .int .i64 (k : Int) ∧ nv = .int .i64 now ∧ uv = .int .i64 una ∧ g + k = 20 ∧ k ≤ len ∧ (0 ≤ now ∧ now ≤ 255 * (k : Int)) ∧ (0 ≤ una ∧ una ≤ s.next) ∧ s.next = 50 * (k : Int) ∧ s.Ok ∧ t.Fit ∧ ScAt Bs lb s wr ∧ ScAt Br lb s wr ∧ Tim Bt t wr ∧ Tim Bu t wr ∧ Below w.heap.size w wr)
  case atStart => exact ⟨0, 0, 0, sc0, tm0, rfl, rfl, rfl, rfl, Nat.zero_le _, ⟨Int.le_refl _, Int.le_refl _⟩, ⟨Int.le_refl _, Int.le_refl _⟩, rfl, sc0_ok, tm0_fit, HS.out, HR.out, HT.out, HU.out, HB.out⟩
  case round =>
    clear HS HR HT HU HB
    obtain ⟨k, now, una, s, t, rfl, rfl, rfl, hg, hkl, hnow, huna, hnx, ok, fit, hs, hr, ht, hu, hb⟩ := hrel
    have HOK := Lib.hid ok
    have HF := Lib.hid fit
    have HS := Lib.hid hs
    have HR := Lib.hid hr
    have HT := Lib.hid ht
    have HU := Lib.hid hu
    have HB := Lib.hid hb
    clear ok fit hs hr ht hu hb
    by_cases hlt : k < len
    · by_cases hl2 : k < 20
      · obtain ⟨b, off, rfl, hbs, hcs⟩ := HROW.out.2 (by omega)
        obtain ⟨c0, c1, c2, ⟨z1, z2⟩, ⟨z3, z4⟩, z5, z6⟩ := hcs k hlt
        clear hcs
        generalize (zs k).1 = a0 at *
        generalize (zs k).2.1 = a1 at *
        generalize (zs k).2.2 = a2 at *
        have HCE := Lib.hid (And.intro c0 (And.intro c1 c2))
        clear c0 c1 c2
        have f1 : (k : Int) < (len : Int) := by omega
        have f2 : (k : Int) < 20 := by omega
        have HI := Lib.hid (show In64 now by unfold In64; omega)
        obtain ⟨nx, hnx2⟩ : ∃ nx, nx = s.next + 50 := ⟨_, rfl⟩
        have hnb : 50 ≤ nx ∧ nx ≤ 1000 := by omega
        obtain ⟨r0, hr0⟩ : ∃ r0, r0 = a0.tmod (nx - una + 1) := ⟨_, rfl⟩
        have hrb : 0 ≤ r0 ∧ r0 ≤ nx - una := by rw [hr0, Int.tmod_eq_emod_of_nonneg z1]; have h1 := Int.emod_nonneg a0 (show nx - una + 1 ≠ 0 by omega); have h2 := Int.emod_lt_of_pos a0 (show 0 < nx - una + 1 by omega); omega
        obtain ⟨r1, hr1⟩ : ∃ r1, r1 = a1.tmod 50 := ⟨_, rfl⟩
        have hrb1 : 0 ≤ r1 ∧ r1 ≤ 49 := by rw [hr1, Int.tmod_eq_emod_of_nonneg z3]; omega
        obtain ⟨u1, hu1⟩ : ∃ u1, u1 = una + r0 := ⟨_, rfl⟩
        have hub : 0 ≤ u1 ∧ u1 ≤ nx := by omega
        obtain ⟨bf, hbf⟩ : ∃ bf, bf = min (u1 + r1) (nx - 1) := ⟨_, rfl⟩
        have hbb : 0 ≤ bf ∧ bf < nx := by omega
        have HS1 := Lib.hid (sbSent s (show s.next ≤ nx by omega) (show nx ≤ 1099511627776 by omega))
        have HOK1 := Lib.hid (HOK.out.sent nx)
        have HA1 := Lib.hid (sbAck HOK1.out hub.1 (show u1 ≤ (s.sent nx).next by rw [HS1.out.2.1]; exact hub.2) hbb.1 hbb.2 (show nx ≤ (s.sent nx).next by rw [HS1.out.2.1]; exact Int.le_refl _))
        have HF1 := Lib.hid (Tm.sent_fit HF.out now nx HI.out)
        have HI2 := Lib.hid (show In64 (now + a2) by unfold In64; omega)
        have HF2 := Lib.hid (Tm.acked_fit HF1.out (now + a2) u1)
        have HR0 := Lib.hid hr0
        have HR1 := Lib.hid hr1
        have HU1 := Lib.hid hu1
        have HBF := Lib.hid hbf
        have HNX := Lib.hid hnx2
        clear hr0 hr1 hu1 hbf
        have hnx3 : s.next + 50 = nx := hnx2.symm
        have HNX0 := Lib.hid hnx
        clear hnx2 hnx
        go_wp2_with fail
        refine (scnext_any Br lb s _ HR.out).mono ?_
        rintro e v11 ⟨rfl, hb⟩
        replace HS := Lib.hid (HS.out.below hb)
        replace HR := Lib.hid (HR.out.below hb)
        replace HT := Lib.hid (HT.out.below hb)
        replace HU := Lib.hid (HU.out.below hb)
        replace HB := Lib.hid (HB.out.trans (hb.mono HB.out.size))
        clear hb
        go_wp2_with fail
        skip
        refine (scsent_any Bs lb s nx _ HS.out).mono ?_
        rintro e v12 ⟨rfl, hX, hc⟩
        replace HB := Lib.hid (below_chg HB.out hNs HS.out.lt hc)
        replace HR := Lib.hid (HR.out.other hc (by omega) (by omega))
        replace HT := Lib.hid (HT.out.other hc (by omega))
        replace HU := Lib.hid (HU.out.other hc (by omega))
        replace HS := Lib.hid hX
        rw [HS1.out.1]
        clear hX hc
        go_wp2_with fail
        refine (scsent_any Br lb s nx _ HR.out).mono ?_
        rintro e v13 ⟨rfl, hX, hc⟩
        replace HB := Lib.hid (below_chg HB.out hNr HR.out.lt hc)
        replace HS := Lib.hid (HS.out.other hc (by omega) (by omega))
        replace HT := Lib.hid (HT.out.other hc (by omega))
        replace HU := Lib.hid (HU.out.other hc (by omega))
        replace HR := Lib.hid hX
        rw [HS1.out.1]
        clear hX hc
        go_wp2_with fail
        refine (sent_any Bt t now nx _ HT.out).mono ?_
        rintro e v14 ⟨rfl, hX, hc⟩
        replace HB := Lib.hid (below_chg HB.out hNt HT.out.lt hc)
        replace HS := Lib.hid (HS.out.other hc (by omega) (by omega))
        replace HR := Lib.hid (HR.out.other hc (by omega) (by omega))
        replace HU := Lib.hid (HU.out.other hc (by omega))
        replace HT := Lib.hid hX
        clear hX hc
        go_wp2_with fail
        refine (sent_any Bu t now nx _ HU.out).mono ?_
        rintro e v15 ⟨rfl, hX, hc⟩
        replace HB := Lib.hid (below_chg HB.out hNu HU.out.lt hc)
        replace HS := Lib.hid (HS.out.other hc (by omega) (by omega))
        replace HR := Lib.hid (HR.out.other hc (by omega) (by omega))
        replace HT := Lib.hid (HT.out.other hc (by omega))
        replace HU := Lib.hid hX
        clear hX hc
        have d0 := cell_bel2 HCE.out.1 hbs HB.out
        have d1 := cell_bel2 HCE.out.2.1 hbs HB.out
        have d2 := cell_bel2 HCE.out.2.2 hbs HB.out
        have hrt := HR0.out.symm
        have hrt1 := HR1.out.symm
        have hut := HU1.out.symm
        have hbt := HBF.out.symm
        have hnz : ¬ nx - una + 1 = 0 := by omega
        go_wp2_with fail
        clear d0 d1 d2 hrt hrt1 hut hbt hnz
        have hb := sgBel v15 (.cells #[.int .i64 bf, .int .i64 nx] 51)
        have x0 := (At.new (W := v15) (i := 0) (v := .int .i64 bf) (vs := #[.int .i64 bf, .int .i64 nx]) 51 rfl rfl).1
        have x1 := (At.new (W := v15) (i := 1) (v := .int .i64 nx) (vs := #[.int .i64 bf, .int .i64 nx]) 51 rfl rfl).1
        obtain ⟨Xb, hXb⟩ : ∃ Xb, Xb = v15.heap.size := ⟨_, rfl⟩
        rw [← hXb] at x0 x1 ⊢
        have hXo : Bs < Xb ∧ Br < Xb ∧ Bt < Xb ∧ Bu < Xb := by have h1 := HS.out.lt; have h2 := HR.out.lt; have h3 := HT.out.lt; have h4 := HU.out.lt; omega
        clear hXb
        replace HS := Lib.hid (HS.out.below hb)
        replace HR := Lib.hid (HR.out.below hb)
        replace HT := Lib.hid (HT.out.below hb)
        replace HU := Lib.hid (HU.out.below hb)
        replace HB := Lib.hid (HB.out.trans (hb.mono HB.out.size))
        clear hb
        generalize v15.alloc (.cells #[.int .i64 bf, .int .i64 nx] 51) = y1 at HS HR HT HU HB x0 x1 ⊢
        have hq := addV_bd p u1
        have hq1 := addV_bd p bf
        have hq2 := addV_bd p nx
        have HSO := Lib.hid (sbSg_ok hq hq1 hq2 (sb_ne p (by omega) hbb.2 (by omega)))
        have HD0 := Lib.hid (diff_add p u1 (by omega) (by omega))
        have HD1 := Lib.hid (diff_add p bf (by omega) (by omega))
        have HD2 := Lib.hid (diff_add p nx (by omega) (by omega))
        have HAD0 := Lib.hid (seqadd_any p u1)
        have HAD1 := Lib.hid (seqadd_any p bf)
        have HAD2 := Lib.hid (seqadd_any p nx)
        generalize addV p u1 = q at HSO HD0 HAD0
        generalize addV p bf = q1 at HSO HD1 HAD1
        generalize addV p nx = q2 at HSO HD2 HAD2
        clear hq hq1 hq2
        refine wp_region_held_drew (S := (fun W : World => W.cell? ⟨Xb, 0, none⟩ = some (.int .i64 bf) ∧ W.cell? ⟨Xb, 1, none⟩ = some (.int .i64 nx))) (by kernel_rfl) (⟨x0, x1⟩) (fun hHeld => ?_)
        clear x0 x1
        replace HS := Lib.hid (HS.out.below (Below.refl _ y1).drew)
        replace HR := Lib.hid (HR.out.below (Below.refl _ y1).drew)
        replace HT := Lib.hid (HT.out.below (Below.refl _ y1).drew)
        replace HU := Lib.hid (HU.out.below (Below.refl _ y1).drew)
        replace HB := Lib.hid HB.out.drew
        generalize y1.drew = y2 at HS HR HT HU HB hHeld ⊢
        refine wpAnyH_take (i := 0) (v := ?_) (by simp only [List.getElem?_toArray, List.getElem?_cons_zero]; rfl) (by kernel_rfl) (by kernel_rfl) (by kernel_rfl) (by exact fun _ _ _ h => h) (Or.inl ⟨by rfl, ?_⟩) (by assumption) ?_
        rotate_left 1
        · intro w hSw; (obtain ⟨z0, z1⟩ := hSw); go_simp; (try with_reducible rfl)
        (try simp only [Act.put, List.setIfInBounds_toArray, List.set_cons_zero, List.set_cons_succ])
        refine wpAnyH_take (i := 1) (v := ?_) (by simp only [List.getElem?_toArray, List.getElem?_cons_succ, List.getElem?_cons_zero]; rfl) (by kernel_rfl) (by kernel_rfl) (by kernel_rfl) (by exact fun _ _ _ h => h) (Or.inl ⟨by rfl, ?_⟩) (by assumption) ?_
        rotate_left 1
        · intro w hSw; (obtain ⟨z0, z1⟩ := hSw); go_simp; (try with_reducible rfl)
        (try simp only [Act.put, List.setIfInBounds_toArray, List.set_cons_zero, List.set_cons_succ])
        refine wpAnyH_take (i := 3) (v := ?_) (by simp only [List.getElem?_toArray, List.getElem?_cons_succ, List.getElem?_cons_zero]; rfl) (by kernel_rfl) (by kernel_rfl) (by kernel_rfl) (by exact fun _ _ _ h => h) (Or.inl ⟨by rfl, ?_⟩) (by assumption) ?_
        rotate_left 1
        · intro w hSw; (obtain ⟨z0, z1⟩ := hSw); go_simp; (try with_reducible rfl)
        (try simp only [Act.put, List.setIfInBounds_toArray, List.set_cons_zero, List.set_cons_succ])
        refine wpAnyH_take (i := 4) (v := ?_) (by simp only [List.getElem?_toArray, List.getElem?_cons_succ, List.getElem?_cons_zero]; rfl) (by kernel_rfl) (by kernel_rfl) (by kernel_rfl) (by exact fun _ _ _ h => h) (Or.inl ⟨by rfl, ?_⟩) (by assumption) ?_
        rotate_left 1
        · intro w hSw; (obtain ⟨z0, z1⟩ := hSw); go_simp; (try with_reducible rfl)
        (try simp only [Act.put, List.setIfInBounds_toArray, List.set_cons_zero, List.set_cons_succ])
        refine wpAnyH_take (i := 5) (v := ?_) (by simp only [List.getElem?_toArray, List.getElem?_cons_succ, List.getElem?_cons_zero]; rfl) (by kernel_rfl) (by kernel_rfl) (by kernel_rfl) (by exact fun _ _ _ h => h) (Or.inl ⟨by rfl, ?_⟩) (by assumption) ?_
        rotate_left 1
        · intro w hSw; (obtain ⟨z0, z1⟩ := hSw); go_simp; (try with_reducible rfl)
        (try simp only [Act.put, List.setIfInBounds_toArray, List.set_cons_zero, List.set_cons_succ])
        refine wpAnyH_take (i := 7) (v := ?_) (by simp only [List.getElem?_toArray, List.getElem?_cons_succ, List.getElem?_cons_zero]; rfl) (by kernel_rfl) (by kernel_rfl) (by kernel_rfl) (by exact fun _ _ _ h => h) (Or.inl ⟨by rfl, ?_⟩) (by assumption) ?_
        rotate_left 1
        · intro w hSw; (obtain ⟨z0, z1⟩ := hSw); go_simp; (try with_reducible rfl)
        (try simp only [Act.put, List.setIfInBounds_toArray, List.set_cons_zero, List.set_cons_succ])
        refine wpAnyH_take (i := 8) (v := ?_) (by simp only [List.getElem?_toArray, List.getElem?_cons_succ, List.getElem?_cons_zero]; rfl) (by kernel_rfl) (by kernel_rfl) (by kernel_rfl) (by exact fun _ _ _ h => h) (Or.inl ⟨by rfl, ?_⟩) (by assumption) ?_
        rotate_left 1
        · intro w hSw; (obtain ⟨z0, z1⟩ := hSw); go_simp; (try with_reducible rfl)
        (try simp only [Act.put, List.setIfInBounds_toArray, List.set_cons_zero, List.set_cons_succ])
        refine wpAnyH_take (i := 9) (v := ?_) (by simp only [List.getElem?_toArray, List.getElem?_cons_succ, List.getElem?_cons_zero]; rfl) (by kernel_rfl) (by kernel_rfl) (by kernel_rfl) (by exact fun _ _ _ h => h) (Or.inl ⟨by rfl, ?_⟩) (by assumption) ?_
        rotate_left 1
        · intro w hSw; (obtain ⟨z0, z1⟩ := hSw); go_simp; (try with_reducible rfl)
        (try simp only [Act.put, List.setIfInBounds_toArray, List.set_cons_zero, List.set_cons_succ])
        refine wpAnyH_ready (rs := [2]) (by kernel_rfl) (by simp) ?_
        refine AllReadyH.cons (by simp only [List.getElem?_toArray, List.getElem?_cons_succ, List.getElem?_cons_zero]; rfl) (fun Kq hKq => ?_) AllReadyH.nil
        go_simp
        refine (HAD0.out _).mono ?_
        rintro e w9 ⟨rfl, rfl⟩
        go_simp
        refine hKq.out _ _ (hHeld) (fun hHeld2 => ?_)
        clear hKq Kq hHeld
        (try simp only [Act.put, List.setIfInBounds_toArray, List.set_cons_zero, List.set_cons_succ])
        have hHeld := hHeld2
        clear hHeld2
        refine wpAnyH_ready (rs := [6]) (by kernel_rfl) (by simp) ?_
        refine AllReadyH.cons (by simp only [List.getElem?_toArray, List.getElem?_cons_succ, List.getElem?_cons_zero]; rfl) (fun Kq hKq => ?_) AllReadyH.nil
        go_simp
        refine (HAD1.out _).mono ?_
        rintro e w9 ⟨rfl, rfl⟩
        go_simp
        refine hKq.out _ _ (hHeld) (fun hHeld2 => ?_)
        clear hKq Kq hHeld
        (try simp only [Act.put, List.setIfInBounds_toArray, List.set_cons_zero, List.set_cons_succ])
        have hHeld := hHeld2
        clear hHeld2
        refine wpAnyH_ready (rs := [10]) (by kernel_rfl) (by simp) ?_
        refine AllReadyH.cons (by simp only [List.getElem?_toArray, List.getElem?_cons_succ, List.getElem?_cons_zero]; rfl) (fun Kq hKq => ?_) AllReadyH.nil
        go_simp
        refine (HAD2.out _).mono ?_
        rintro e w9 ⟨rfl, rfl⟩
        go_simp
        refine hKq.out _ _ (hHeld) (fun hHeld2 => ?_)
        clear hKq Kq hHeld
        (try simp only [Act.put, List.setIfInBounds_toArray, List.set_cons_zero, List.set_cons_succ])
        have hHeld := hHeld2
        clear hHeld2
        refine wpAnyH_take (i := 11) (v := ?_) (by simp only [List.getElem?_toArray, List.getElem?_cons_succ, List.getElem?_cons_zero]; rfl) (by kernel_rfl) (by kernel_rfl) (by kernel_rfl) (by exact fun _ _ _ h => h) (Or.inl ⟨by rfl, ?_⟩) (by assumption) ?_
        rotate_left 1
        · intro w hSw; (obtain ⟨z0, z1⟩ := hSw); go_simp; (try with_reducible rfl)
        (try simp only [Act.put, List.setIfInBounds_toArray, List.set_cons_zero, List.set_cons_succ])
        have hb := sgBel y2 (.cells #[.int .i64 q1, .int .i64 q2] 51)
        have hHeld0 := hHeld
        have hK2 := (show (fun W : World => W.cell? ⟨Xb, 0, none⟩ = some (.int .i64 bf) ∧ W.cell? ⟨Xb, 1, none⟩ = some (.int .i64 nx)) (y2.alloc (.cells #[.int .i64 q1, .int .i64 q2] 51)) from ⟨cell_bel2 hHeld0.1 (block_lt_of_cell hHeld0.1) hb, cell_bel2 hHeld0.2 (block_lt_of_cell hHeld0.2) hb⟩)
        have m0 := (At.new (W := y2) (i := 0) (v := .int .i64 q1) (vs := #[.int .i64 q1, .int .i64 q2]) 51 rfl rfl).1
        have m1 := (At.new (W := y2) (i := 1) (v := .int .i64 q2) (vs := #[.int .i64 q1, .int .i64 q2]) 51 rfl rfl).1
        replace HS := Lib.hid (HS.out.below hb)
        replace HR := Lib.hid (HR.out.below hb)
        replace HT := Lib.hid (HT.out.below hb)
        replace HU := Lib.hid (HU.out.below hb)
        replace HB := Lib.hid (HB.out.trans (hb.mono HB.out.size))
        clear hb
        clear hHeld0
        refine wpAnyH_ready (rs := [12]) (by kernel_rfl) (by simp) ?_
        refine AllReadyH.cons (by simp only [List.getElem?_toArray, List.getElem?_cons_succ, List.getElem?_cons_zero]; rfl) (fun Kq hKq => ?_) AllReadyH.nil
        go_simp
        refine hKq.out _ _ (hK2) (fun hHeld2 => ?_)
        clear hKq Kq hHeld
        (try simp only [Act.put, List.setIfInBounds_toArray, List.set_cons_zero, List.set_cons_succ])
        have hHeld := hHeld2
        clear hHeld2
        clear hK2
        generalize y2.heap.size = M at m0 m1 ⊢
        generalize y2.alloc (.cells #[.int .i64 q1, .int .i64 q2] 51) = y3 at HS HR HT HU HB m0 m1 hHeld ⊢
        refine wpAnyH_take (i := 13) (v := ?_) (by simp only [List.getElem?_toArray, List.getElem?_cons_succ, List.getElem?_cons_zero]; rfl) (by kernel_rfl) (by kernel_rfl) (by kernel_rfl) (by exact fun _ _ _ h => h) (Or.inl ⟨by rfl, ?_⟩) (by assumption) ?_
        rotate_left 1
        · intro w hSw; (obtain ⟨z0, z1⟩ := hSw); go_simp; (try with_reducible rfl)
        (try simp only [Act.put, List.setIfInBounds_toArray, List.set_cons_zero, List.set_cons_succ])
        have HEN := Lib.hid (sb_enc q q1 q2 HSO.out M y3 m0 m1)
        have hHeld0 := hHeld
        clear m0 m1
        refine wpAnyH_ready (rs := [14]) (by kernel_rfl) (by simp) ?_
        refine AllReadyH.cons (by simp only [List.getElem?_toArray, List.getElem?_cons_succ, List.getElem?_cons_zero]; rfl) (fun Kq hKq => ?_) AllReadyH.nil
        go_simp
        refine (HEN.out).mono ?_
        rintro e y4 ⟨rfl, hb⟩
        have hK4 := (show (fun W : World => W.cell? ⟨Xb, 0, none⟩ = some (.int .i64 bf) ∧ W.cell? ⟨Xb, 1, none⟩ = some (.int .i64 nx)) y4 from ⟨cell_bel2 hHeld0.1 (block_lt_of_cell hHeld0.1) hb, cell_bel2 hHeld0.2 (block_lt_of_cell hHeld0.2) hb⟩)
        replace HS := Lib.hid (HS.out.below hb)
        replace HR := Lib.hid (HR.out.below hb)
        replace HT := Lib.hid (HT.out.below hb)
        replace HU := Lib.hid (HU.out.below hb)
        replace HB := Lib.hid (HB.out.trans (hb.mono HB.out.size))
        clear hb
        clear hHeld0 HEN
        go_simp
        refine hKq.out _ _ (hK4) (fun hHeld2 => ?_)
        clear hKq Kq hHeld
        (try simp only [Act.put, List.setIfInBounds_toArray, List.set_cons_zero, List.set_cons_succ])
        have hHeld := hHeld2
        clear hHeld2
        obtain ⟨en, hen⟩ : ∃ en : ByteArray, en = ⟨((sbSg q q1 q2).encL 1 2).toArray⟩ := ⟨_, rfl⟩
        rw [← hen]
        have HEN := Lib.hid hen
        clear hen
        refine wpAnyH_take (i := 15) (v := ?_) (by simp only [List.getElem?_toArray, List.getElem?_cons_succ, List.getElem?_cons_zero]; rfl) (by kernel_rfl) (by kernel_rfl) (by kernel_rfl) (by exact fun _ _ _ h => h) (Or.inl ⟨by rfl, ?_⟩) (by assumption) ?_
        rotate_left 1
        · intro w hSw; (obtain ⟨z0, z1⟩ := hSw); go_simp; (try with_reducible rfl)
        (try simp only [Act.put, List.setIfInBounds_toArray, List.set_cons_zero, List.set_cons_succ])
        refine wpAnyH_take (i := 16) (v := ?_) (by simp only [List.getElem?_toArray, List.getElem?_cons_succ, List.getElem?_cons_zero]; rfl) (by kernel_rfl) (by kernel_rfl) (by kernel_rfl) (by exact fun _ _ _ h => h) (Or.inl ⟨by rfl, ?_⟩) (by assumption) ?_
        rotate_left 1
        · intro w hSw; (obtain ⟨z0, z1⟩ := hSw); go_simp; (try with_reducible rfl)
        (try simp only [Act.put, List.setIfInBounds_toArray, List.set_cons_zero, List.set_cons_succ])
        refine wpAnyH_take (i := 17) (v := ?_) (by simp only [List.getElem?_toArray, List.getElem?_cons_succ, List.getElem?_cons_zero]; rfl) (by kernel_rfl) (by kernel_rfl) (by kernel_rfl) (by exact fun _ _ _ h => h) (Or.inl ⟨by rfl, ?_⟩) (by assumption) ?_
        rotate_left 1
        · intro w hSw; (obtain ⟨z0, z1⟩ := hSw); go_simp; (try with_reducible rfl)
        (try simp only [Act.put, List.setIfInBounds_toArray, List.set_cons_zero, List.set_cons_succ])
        refine wpAnyH_take (i := 18) (v := ?_) (by simp only [List.getElem?_toArray, List.getElem?_cons_succ, List.getElem?_cons_zero]; rfl) (by kernel_rfl) (by kernel_rfl) (by kernel_rfl) (by exact fun _ _ _ h => h) (Or.inl ⟨by rfl, ?_⟩) (by assumption) ?_
        rotate_left 1
        · intro w hSw; (obtain ⟨z0, z1⟩ := hSw); go_simp; (try with_reducible rfl)
        (try simp only [Act.put, List.setIfInBounds_toArray, List.set_cons_zero, List.set_cons_succ])
        refine wpAnyH_take (i := 19) (v := ?_) (by simp only [List.getElem?_toArray, List.getElem?_cons_succ, List.getElem?_cons_zero]; rfl) (by kernel_rfl) (by kernel_rfl) (by kernel_rfl) (by exact fun _ _ _ h => h) (Or.inl ⟨by rfl, ?_⟩) (by assumption) ?_
        rotate_left 1
        · intro w hSw; (obtain ⟨z0, z1⟩ := hSw); go_simp; (try with_reducible rfl)
        (try simp only [Act.put, List.setIfInBounds_toArray, List.set_cons_zero, List.set_cons_succ])
        refine wpAnyH_done (by kernel_rfl) ?_ _
        obtain ⟨x0, x1⟩ := hK4
        clear hHeld
        go_wp2_with fail
        refine (sb_dec q q1 q2 HSO.out en HEN.out _).mono ?_
        rintro e y5 ⟨gb, gc, dS, rfl, hgn, g0, g1, hb⟩
        have hgl := block_lt_of_cell g0
        dsimp only at hgl
        have hgo : Bs < gb ∧ Br < gb ∧ Bt < gb ∧ Bu < gb := by have := block_lt_of_cell x0; dsimp only at this; omega
        replace x0 := cell_bel2 x0 (block_lt_of_cell x0) hb
        replace x1 := cell_bel2 x1 (block_lt_of_cell x1) hb
        replace HS := Lib.hid (HS.out.below hb)
        replace HR := Lib.hid (HR.out.below hb)
        replace HT := Lib.hid (HT.out.below hb)
        replace HU := Lib.hid (HU.out.below hb)
        replace HB := Lib.hid (HB.out.trans (hb.mono HB.out.size))
        clear hb
        clear HEN HSO hgn
        go_wp2_with fail
        have hb := sgBel y5 (.cells #[.int .i64 1, .int .i64 2, .int .i64 0, .int .i64 q, .bool false, .bool false, .bool false, .bool true, .int .i64 0, .int .i64 0, .bool false, .slice (some ⟨gb, 0, none⟩) 1 gc, .string dS] 31)
        have s0 := (At.new (W := y5) (i := 3) (v := .int .i64 q) (vs := #[.int .i64 1, .int .i64 2, .int .i64 0, .int .i64 q, .bool false, .bool false, .bool false, .bool true, .int .i64 0, .int .i64 0, .bool false, .slice (some ⟨gb, 0, none⟩) 1 gc, .string dS]) 31 rfl rfl).1
        have s1 := (At.new (W := y5) (i := 11) (v := .slice (some ⟨gb, 0, none⟩) 1 gc) (vs := #[.int .i64 1, .int .i64 2, .int .i64 0, .int .i64 q, .bool false, .bool false, .bool false, .bool true, .int .i64 0, .int .i64 0, .bool false, .slice (some ⟨gb, 0, none⟩) 1 gc, .string dS]) 31 rfl rfl).1
        replace g0 := cell_bel2 g0 hgl hb
        replace g1 := cell_bel2 g1 hgl hb
        replace x0 := cell_bel2 x0 (block_lt_of_cell x0) hb
        replace x1 := cell_bel2 x1 (block_lt_of_cell x1) hb
        obtain ⟨Yb, hYb⟩ : ∃ Yb, Yb = y5.heap.size := ⟨_, rfl⟩
        rw [← hYb] at s0 s1 ⊢
        have hYo : Bs < Yb ∧ Br < Yb ∧ Bt < Yb ∧ Bu < Yb := by omega
        clear hYb
        replace HS := Lib.hid (HS.out.below hb)
        replace HR := Lib.hid (HR.out.below hb)
        replace HT := Lib.hid (HT.out.below hb)
        replace HU := Lib.hid (HU.out.below hb)
        replace HB := Lib.hid (HB.out.trans (hb.mono HB.out.size))
        clear hb
        clear hgl
        generalize y5.alloc (.cells #[.int .i64 1, .int .i64 2, .int .i64 0, .int .i64 q, .bool false, .bool false, .bool false, .bool true, .int .i64 0, .int .i64 0, .bool false, .slice (some ⟨gb, 0, none⟩) 1 gc, .string dS] 31) = y6 at HS HR HT HU HB x0 x1 g0 g1 s0 s1 ⊢
        refine wp_region_held_drew (S := (fun W : World => W.cell? ⟨Yb, 3, none⟩ = some (.int .i64 q) ∧ W.cell? ⟨Yb, 11, none⟩ = some (.slice (some ⟨gb, 0, none⟩) 1 gc) ∧ W.cell? ⟨gb, 0, none⟩ = some (.int .i64 q1) ∧ W.cell? ⟨gb, 1, none⟩ = some (.int .i64 q2) ∧ W.cell? ⟨Xb, 0, none⟩ = some (.int .i64 bf) ∧ W.cell? ⟨Xb, 1, none⟩ = some (.int .i64 nx))) (by kernel_rfl) (⟨s0, s1, g0, g1, x0, x1⟩) (fun hHeld => ?_)
        clear s0 s1 g0 g1 x0 x1
        replace HS := Lib.hid (HS.out.below (Below.refl _ y6).drew)
        replace HR := Lib.hid (HR.out.below (Below.refl _ y6).drew)
        replace HT := Lib.hid (HT.out.below (Below.refl _ y6).drew)
        replace HU := Lib.hid (HU.out.below (Below.refl _ y6).drew)
        replace HB := Lib.hid HB.out.drew
        generalize y6.drew = y7 at HS HR HT HU HB hHeld ⊢
        refine wpAnyH_take (i := 0) (v := ?_) (by simp only [List.getElem?_toArray, List.getElem?_cons_zero]; rfl) (by kernel_rfl) (by kernel_rfl) (by kernel_rfl) (by exact fun _ _ _ h => h) (Or.inl ⟨by rfl, ?_⟩) (by assumption) ?_
        rotate_left 1
        · intro w hSw; (obtain ⟨z0, z1, z2, z3, z4, z5⟩ := hSw); go_simp; (try with_reducible rfl)
        (try simp only [Act.put, List.setIfInBounds_toArray, List.set_cons_zero, List.set_cons_succ])
        refine wpAnyH_take (i := 1) (v := ?_) (by simp only [List.getElem?_toArray, List.getElem?_cons_succ, List.getElem?_cons_zero]; rfl) (by kernel_rfl) (by kernel_rfl) (by kernel_rfl) (by exact fun _ _ _ h => h) (Or.inl ⟨by rfl, ?_⟩) (by assumption) ?_
        rotate_left 1
        · intro w hSw; (obtain ⟨z0, z1, z2, z3, z4, z5⟩ := hSw); go_simp; (try with_reducible rfl)
        (try simp only [Act.put, List.setIfInBounds_toArray, List.set_cons_zero, List.set_cons_succ])
        refine wpAnyH_take (i := 2) (v := ?_) (by simp only [List.getElem?_toArray, List.getElem?_cons_succ, List.getElem?_cons_zero]; rfl) (by kernel_rfl) (by kernel_rfl) (by kernel_rfl) (by exact fun _ _ _ h => h) (Or.inl ⟨by rfl, ?_⟩) (by assumption) ?_
        rotate_left 1
        · intro w hSw; (obtain ⟨z0, z1, z2, z3, z4, z5⟩ := hSw); go_simp; (try with_reducible rfl)
        (try simp only [Act.put, List.setIfInBounds_toArray, List.set_cons_zero, List.set_cons_succ])
        refine wpAnyH_take (i := 3) (v := ?_) (by simp only [List.getElem?_toArray, List.getElem?_cons_succ, List.getElem?_cons_zero]; rfl) (by kernel_rfl) (by kernel_rfl) (by kernel_rfl) (by exact fun _ _ _ h => h) (Or.inl ⟨by rfl, ?_⟩) (by assumption) ?_
        rotate_left 1
        · intro w hSw; (obtain ⟨z0, z1, z2, z3, z4, z5⟩ := hSw); go_simp; (try with_reducible rfl)
        (try simp only [Act.put, List.setIfInBounds_toArray, List.set_cons_zero, List.set_cons_succ])
        refine wpAnyH_take (i := 5) (v := ?_) (by simp only [List.getElem?_toArray, List.getElem?_cons_succ, List.getElem?_cons_zero]; rfl) (by kernel_rfl) (by kernel_rfl) (by kernel_rfl) (by exact fun _ _ _ h => h) (Or.inl ⟨by rfl, ?_⟩) (by assumption) ?_
        rotate_left 1
        · intro w hSw; (obtain ⟨z0, z1, z2, z3, z4, z5⟩ := hSw); go_simp; (try with_reducible rfl)
        (try simp only [Act.put, List.setIfInBounds_toArray, List.set_cons_zero, List.set_cons_succ])
        refine wpAnyH_take (i := 6) (v := ?_) (by simp only [List.getElem?_toArray, List.getElem?_cons_succ, List.getElem?_cons_zero]; rfl) (by kernel_rfl) (by kernel_rfl) (by kernel_rfl) (by exact fun _ _ _ h => h) (Or.inl ⟨by rfl, ?_⟩) (by assumption) ?_
        rotate_left 1
        · intro w hSw; (obtain ⟨z0, z1, z2, z3, z4, z5⟩ := hSw); go_simp; (try with_reducible rfl)
        (try simp only [Act.put, List.setIfInBounds_toArray, List.set_cons_zero, List.set_cons_succ])
        refine wpAnyH_take (i := 7) (v := ?_) (by simp only [List.getElem?_toArray, List.getElem?_cons_succ, List.getElem?_cons_zero]; rfl) (by kernel_rfl) (by kernel_rfl) (by kernel_rfl) (by exact fun _ _ _ h => h) (Or.inl ⟨by rfl, ?_⟩) (by assumption) ?_
        rotate_left 1
        · intro w hSw; (obtain ⟨z0, z1, z2, z3, z4, z5⟩ := hSw); go_simp; (try with_reducible rfl)
        (try simp only [Act.put, List.setIfInBounds_toArray, List.set_cons_zero, List.set_cons_succ])
        refine wpAnyH_take (i := 8) (v := ?_) (by simp only [List.getElem?_toArray, List.getElem?_cons_succ, List.getElem?_cons_zero]; rfl) (by kernel_rfl) (by kernel_rfl) (by kernel_rfl) (by exact fun _ _ _ h => h) (Or.inl ⟨by rfl, ?_⟩) (by assumption) ?_
        rotate_left 1
        · intro w hSw; (obtain ⟨z0, z1, z2, z3, z4, z5⟩ := hSw); go_simp; (try with_reducible rfl)
        (try simp only [Act.put, List.setIfInBounds_toArray, List.set_cons_zero, List.set_cons_succ])
        refine wpAnyH_take (i := 9) (v := ?_) (by simp only [List.getElem?_toArray, List.getElem?_cons_succ, List.getElem?_cons_zero]; rfl) (by kernel_rfl) (by kernel_rfl) (by kernel_rfl) (by exact fun _ _ _ h => h) (Or.inl ⟨by rfl, ?_⟩) (by assumption) ?_
        rotate_left 1
        · intro w hSw; (obtain ⟨z0, z1, z2, z3, z4, z5⟩ := hSw); go_simp; (try with_reducible rfl)
        (try simp only [Act.put, List.setIfInBounds_toArray, List.set_cons_zero, List.set_cons_succ])
        refine wpAnyH_take (i := 10) (v := ?_) (by simp only [List.getElem?_toArray, List.getElem?_cons_succ, List.getElem?_cons_zero]; rfl) (by kernel_rfl) (by kernel_rfl) (by kernel_rfl) (by exact fun _ _ _ h => h) (Or.inl ⟨by rfl, ?_⟩) (by assumption) ?_
        rotate_left 1
        · intro w hSw; (obtain ⟨z0, z1, z2, z3, z4, z5⟩ := hSw); go_simp; (try with_reducible rfl)
        (try simp only [Act.put, List.setIfInBounds_toArray, List.set_cons_zero, List.set_cons_succ])
        refine wpAnyH_take (i := 12) (v := ?_) (by simp only [List.getElem?_toArray, List.getElem?_cons_succ, List.getElem?_cons_zero]; rfl) (by kernel_rfl) (by kernel_rfl) (by kernel_rfl) (by exact fun _ _ _ h => h) (Or.inl ⟨by rfl, ?_⟩) (by assumption) ?_
        rotate_left 1
        · intro w hSw; (obtain ⟨z0, z1, z2, z3, z4, z5⟩ := hSw); go_simp; (try with_reducible rfl)
        (try simp only [Act.put, List.setIfInBounds_toArray, List.set_cons_zero, List.set_cons_succ])
        refine wpAnyH_take (i := 13) (v := ?_) (by simp only [List.getElem?_toArray, List.getElem?_cons_succ, List.getElem?_cons_zero]; rfl) (by kernel_rfl) (by kernel_rfl) (by kernel_rfl) (by exact fun _ _ _ h => h) (Or.inl ⟨by rfl, ?_⟩) (by assumption) ?_
        rotate_left 1
        · intro w hSw; (obtain ⟨z0, z1, z2, z3, z4, z5⟩ := hSw); go_simp; (try with_reducible rfl)
        (try simp only [Act.put, List.setIfInBounds_toArray, List.set_cons_zero, List.set_cons_succ])
        refine wpAnyH_take (i := 14) (v := ?_) (by simp only [List.getElem?_toArray, List.getElem?_cons_succ, List.getElem?_cons_zero]; rfl) (by kernel_rfl) (by kernel_rfl) (by kernel_rfl) (by exact fun _ _ _ h => h) (Or.inl ⟨by rfl, ?_⟩) (by assumption) ?_
        rotate_left 1
        · intro w hSw; (obtain ⟨z0, z1, z2, z3, z4, z5⟩ := hSw); go_simp; (try with_reducible rfl)
        (try simp only [Act.put, List.setIfInBounds_toArray, List.set_cons_zero, List.set_cons_succ])
        refine wpAnyH_take (i := 15) (v := ?_) (by simp only [List.getElem?_toArray, List.getElem?_cons_succ, List.getElem?_cons_zero]; rfl) (by kernel_rfl) (by kernel_rfl) (by kernel_rfl) (by exact fun _ _ _ h => h) (Or.inl ⟨by rfl, ?_⟩) (by assumption) ?_
        rotate_left 1
        · intro w hSw; (obtain ⟨z0, z1, z2, z3, z4, z5⟩ := hSw); go_simp; (try with_reducible rfl)
        (try simp only [Act.put, List.setIfInBounds_toArray, List.set_cons_zero, List.set_cons_succ])
        refine wpAnyH_take (i := 16) (v := ?_) (by simp only [List.getElem?_toArray, List.getElem?_cons_succ, List.getElem?_cons_zero]; rfl) (by kernel_rfl) (by kernel_rfl) (by kernel_rfl) (by exact fun _ _ _ h => h) (Or.inl ⟨by rfl, ?_⟩) (by assumption) ?_
        rotate_left 1
        · intro w hSw; (obtain ⟨z0, z1, z2, z3, z4, z5⟩ := hSw); go_simp; (try with_reducible rfl)
        (try simp only [Act.put, List.setIfInBounds_toArray, List.set_cons_zero, List.set_cons_succ])
        refine wpAnyH_take (i := 17) (v := ?_) (by simp only [List.getElem?_toArray, List.getElem?_cons_succ, List.getElem?_cons_zero]; rfl) (by kernel_rfl) (by kernel_rfl) (by kernel_rfl) (by exact fun _ _ _ h => h) (Or.inl ⟨by rfl, ?_⟩) (by assumption) ?_
        rotate_left 1
        · intro w hSw; (obtain ⟨z0, z1, z2, z3, z4, z5⟩ := hSw); go_simp; (try with_reducible rfl)
        (try simp only [Act.put, List.setIfInBounds_toArray, List.set_cons_zero, List.set_cons_succ])
        refine wpAnyH_ready (rs := [4]) (by kernel_rfl) (by simp) ?_
        refine AllReadyH.cons (by simp only [List.getElem?_toArray, List.getElem?_cons_succ, List.getElem?_cons_zero]; rfl) (fun Kq hKq => ?_) AllReadyH.nil
        go_simp
        refine (diff_any q p _).mono ?_
        rintro e w9 ⟨rfl, rfl⟩
        rw [HD0.out]
        go_simp
        refine hKq.out _ _ (hHeld) (fun hHeld2 => ?_)
        clear hKq Kq hHeld
        (try simp only [Act.put, List.setIfInBounds_toArray, List.set_cons_zero, List.set_cons_succ])
        have hHeld := hHeld2
        clear hHeld2
        refine wpAnyH_ready (rs := [11]) (by kernel_rfl) (by simp) ?_
        refine AllReadyH.cons (by simp only [List.getElem?_toArray, List.getElem?_cons_succ, List.getElem?_cons_zero]; rfl) (fun Kq hKq => ?_) AllReadyH.nil
        go_simp
        refine (diff_any q1 p _).mono ?_
        rintro e w9 ⟨rfl, rfl⟩
        rw [HD1.out]
        go_simp
        refine hKq.out _ _ (hHeld) (fun hHeld2 => ?_)
        clear hKq Kq hHeld
        (try simp only [Act.put, List.setIfInBounds_toArray, List.set_cons_zero, List.set_cons_succ])
        have hHeld := hHeld2
        clear hHeld2
        refine wpAnyH_ready (rs := [18]) (by kernel_rfl) (by simp) ?_
        refine AllReadyH.cons (by simp only [List.getElem?_toArray, List.getElem?_cons_succ, List.getElem?_cons_zero]; rfl) (fun Kq hKq => ?_) AllReadyH.nil
        go_simp
        refine (diff_any q2 p _).mono ?_
        rintro e w9 ⟨rfl, rfl⟩
        rw [HD2.out]
        go_simp
        refine hKq.out _ _ (hHeld) (fun hHeld2 => ?_)
        clear hKq Kq hHeld
        (try simp only [Act.put, List.setIfInBounds_toArray, List.set_cons_zero, List.set_cons_succ])
        have hHeld := hHeld2
        clear hHeld2
        refine wpAnyH_take (i := 19) (v := ?_) (by simp only [List.getElem?_toArray, List.getElem?_cons_succ, List.getElem?_cons_zero]; rfl) (by kernel_rfl) (by kernel_rfl) (by kernel_rfl) (by exact fun _ _ _ h => h) (Or.inl ⟨by rfl, ?_⟩) (by assumption) ?_
        rotate_left 1
        · intro w hSw; (obtain ⟨z0, z1, z2, z3, z4, z5⟩ := hSw); go_simp; (try with_reducible rfl)
        (try simp only [Act.put, List.setIfInBounds_toArray, List.set_cons_zero, List.set_cons_succ])
        have hb := sgBel y7 (.cells #[.int .i64 bf, .int .i64 nx] 51)
        have hHeld0 := hHeld
        have hK8 := (show (fun W : World => W.cell? ⟨Yb, 3, none⟩ = some (.int .i64 q) ∧ W.cell? ⟨Yb, 11, none⟩ = some (.slice (some ⟨gb, 0, none⟩) 1 gc) ∧ W.cell? ⟨gb, 0, none⟩ = some (.int .i64 q1) ∧ W.cell? ⟨gb, 1, none⟩ = some (.int .i64 q2) ∧ W.cell? ⟨Xb, 0, none⟩ = some (.int .i64 bf) ∧ W.cell? ⟨Xb, 1, none⟩ = some (.int .i64 nx)) (y7.alloc (.cells #[.int .i64 bf, .int .i64 nx] 51)) from ⟨cell_bel2 hHeld0.1 (block_lt_of_cell hHeld0.1) hb, cell_bel2 hHeld0.2.1 (block_lt_of_cell hHeld0.2.1) hb, cell_bel2 hHeld0.2.2.1 (block_lt_of_cell hHeld0.2.2.1) hb, cell_bel2 hHeld0.2.2.2.1 (block_lt_of_cell hHeld0.2.2.2.1) hb, cell_bel2 hHeld0.2.2.2.2.1 (block_lt_of_cell hHeld0.2.2.2.2.1) hb, cell_bel2 hHeld0.2.2.2.2.2 (block_lt_of_cell hHeld0.2.2.2.2.2) hb⟩)
        have hil : InL Bs (some ⟨y7.heap.size, 0, none⟩) [(bf, nx)] (y7.alloc (.cells #[.int .i64 bf, .int .i64 nx] 51)) := sb_inl (by have := HS.out.lt; omega)
        have HL := Lib.hid hil
        clear hil
        replace HS := Lib.hid (HS.out.below hb)
        replace HR := Lib.hid (HR.out.below hb)
        replace HT := Lib.hid (HT.out.below hb)
        replace HU := Lib.hid (HU.out.below hb)
        replace HB := Lib.hid (HB.out.trans (hb.mono HB.out.size))
        clear hb
        clear hHeld0
        refine wpAnyH_ready (rs := [20]) (by kernel_rfl) (by simp) ?_
        refine AllReadyH.cons (by simp only [List.getElem?_toArray, List.getElem?_cons_succ, List.getElem?_cons_zero]; rfl) (fun Kq hKq => ?_) AllReadyH.nil
        go_simp
        refine hKq.out _ _ (hK8) (fun hHeld2 => ?_)
        clear hKq Kq hHeld
        (try simp only [Act.put, List.setIfInBounds_toArray, List.set_cons_zero, List.set_cons_succ])
        have hHeld := hHeld2
        clear hHeld2
        clear hK8
        generalize y7.heap.size = M2 at HL ⊢
        generalize y7.alloc (.cells #[.int .i64 bf, .int .i64 nx] 51) = y8 at HS HR HT HU HB HL hHeld ⊢
        have hHeld0 := hHeld
        refine wpAnyH_ready (rs := [21]) (by kernel_rfl) (by simp) ?_
        refine AllReadyH.cons (by simp only [List.getElem?_toArray, List.getElem?_cons_succ, List.getElem?_cons_zero]; rfl) (fun Kq hKq => ?_) AllReadyH.nil
        go_simp
        refine (scacked_any Bs lb (s.sent nx) u1 (some ⟨M2, 0, none⟩) 1 [(bf, nx)] _ HOK1.out HS.out HL.out (by have h := canonF_len2 (n := (s.sent nx).next) HOK1.out.csk (fun i hi => (HOK1.out.msk i hi).2); rw [HS1.out.2.1] at h; rw [List.length_append]; simp; omega)).mono ?_
        rintro e y9 ⟨rfl, hX, hc⟩
        have hK9 := (show (fun W : World => W.cell? ⟨Yb, 3, none⟩ = some (.int .i64 q) ∧ W.cell? ⟨Yb, 11, none⟩ = some (.slice (some ⟨gb, 0, none⟩) 1 gc) ∧ W.cell? ⟨gb, 0, none⟩ = some (.int .i64 q1) ∧ W.cell? ⟨gb, 1, none⟩ = some (.int .i64 q2) ∧ W.cell? ⟨Xb, 0, none⟩ = some (.int .i64 bf) ∧ W.cell? ⟨Xb, 1, none⟩ = some (.int .i64 nx)) y9 from ⟨cell_chg hHeld0.1 hc (by omega), cell_chg hHeld0.2.1 hc (by omega), cell_chg hHeld0.2.2.1 hc (by omega), cell_chg hHeld0.2.2.2.1 hc (by omega), cell_chg hHeld0.2.2.2.2.1 hc (by omega), cell_chg hHeld0.2.2.2.2.2 hc (by omega)⟩)
        replace HB := Lib.hid (below_chg HB.out hNs HS.out.lt hc)
        replace HR := Lib.hid (HR.out.other hc (by omega) (by omega))
        replace HT := Lib.hid (HT.out.other hc (by omega))
        replace HU := Lib.hid (HU.out.other hc (by omega))
        replace HS := Lib.hid hX
        rw [HA1.out.1]
        clear hX hc hHeld0 HL
        go_simp
        refine hKq.out _ _ (hK9) (fun hHeld2 => ?_)
        clear hKq Kq hHeld
        (try simp only [Act.put, List.setIfInBounds_toArray, List.set_cons_zero, List.set_cons_succ])
        have hHeld := hHeld2
        clear hHeld2
        refine wpAnyH_take (i := 22) (v := ?_) (by simp only [List.getElem?_toArray, List.getElem?_cons_succ, List.getElem?_cons_zero]; rfl) (by kernel_rfl) (by kernel_rfl) (by kernel_rfl) (by exact fun _ _ _ h => h) (Or.inl ⟨by rfl, ?_⟩) (by assumption) ?_
        rotate_left 1
        · intro w hSw; (obtain ⟨z0, z1, z2, z3, z4, z5⟩ := hSw); go_simp; (try with_reducible rfl)
        (try simp only [Act.put, List.setIfInBounds_toArray, List.set_cons_zero, List.set_cons_succ])
        refine wpAnyH_take (i := 23) (v := ?_) (by simp only [List.getElem?_toArray, List.getElem?_cons_succ, List.getElem?_cons_zero]; rfl) (by kernel_rfl) (by kernel_rfl) (by kernel_rfl) (by exact fun _ _ _ h => h) (Or.inl ⟨by rfl, ?_⟩) (by assumption) ?_
        rotate_left 1
        · intro w hSw; (obtain ⟨z0, z1, z2, z3, z4, z5⟩ := hSw); go_simp; (try with_reducible rfl)
        (try simp only [Act.put, List.setIfInBounds_toArray, List.set_cons_zero, List.set_cons_succ])
        refine wpAnyH_take (i := 24) (v := ?_) (by simp only [List.getElem?_toArray, List.getElem?_cons_succ, List.getElem?_cons_zero]; rfl) (by kernel_rfl) (by kernel_rfl) (by kernel_rfl) (by exact fun _ _ _ h => h) (Or.inl ⟨by rfl, ?_⟩) (by assumption) ?_
        rotate_left 1
        · intro w hSw; (obtain ⟨z0, z1, z2, z3, z4, z5⟩ := hSw); go_simp; (try with_reducible rfl)
        (try simp only [Act.put, List.setIfInBounds_toArray, List.set_cons_zero, List.set_cons_succ])
        refine wpAnyH_take (i := 25) (v := ?_) (by simp only [List.getElem?_toArray, List.getElem?_cons_succ, List.getElem?_cons_zero]; rfl) (by kernel_rfl) (by kernel_rfl) (by kernel_rfl) (by exact fun _ _ _ h => h) (Or.inl ⟨by rfl, ?_⟩) (by assumption) ?_
        rotate_left 1
        · intro w hSw; (obtain ⟨z0, z1, z2, z3, z4, z5⟩ := hSw); go_simp; (try with_reducible rfl)
        (try simp only [Act.put, List.setIfInBounds_toArray, List.set_cons_zero, List.set_cons_succ])
        refine wpAnyH_take (i := 26) (v := ?_) (by simp only [List.getElem?_toArray, List.getElem?_cons_succ, List.getElem?_cons_zero]; rfl) (by kernel_rfl) (by kernel_rfl) (by kernel_rfl) (by exact fun _ _ _ h => h) (Or.inl ⟨by rfl, ?_⟩) (by assumption) ?_
        rotate_left 1
        · intro w hSw; (obtain ⟨z0, z1, z2, z3, z4, z5⟩ := hSw); go_simp; (try with_reducible rfl)
        (try simp only [Act.put, List.setIfInBounds_toArray, List.set_cons_zero, List.set_cons_succ])
        refine wpAnyH_done (by kernel_rfl) ?_ _
        obtain ⟨s0, s1, g0, g1, x0, x1⟩ := hK9
        clear hHeld s1 g0 g1
        go_wp2_with fail
        have hb := sgBel y9 (.cells #[.int .i64 bf, .int .i64 nx] 51)
        have hil : InL Br (some ⟨y9.heap.size, 0, none⟩) [(bf, nx)] (y9.alloc (.cells #[.int .i64 bf, .int .i64 nx] 51)) := sb_inl (by have := HR.out.lt; omega)
        have HL := Lib.hid hil
        replace s0 := cell_bel2 s0 (block_lt_of_cell s0) hb
        clear hil x0 x1
        replace HS := Lib.hid (HS.out.below hb)
        replace HR := Lib.hid (HR.out.below hb)
        replace HT := Lib.hid (HT.out.below hb)
        replace HU := Lib.hid (HU.out.below hb)
        replace HB := Lib.hid (HB.out.trans (hb.mono HB.out.size))
        clear hb
        generalize y9.heap.size = M3 at HL ⊢
        generalize y9.alloc (.cells #[.int .i64 bf, .int .i64 nx] 51) = z1 at HS HR HT HU HB HL s0 ⊢
        refine (scacked_any Br lb (s.sent nx) u1 (some ⟨M3, 0, none⟩) 1 [(bf, nx)] _ HOK1.out HR.out HL.out (by have h := canonF_len2 (n := (s.sent nx).next) HOK1.out.csk (fun i hi => (HOK1.out.msk i hi).2); rw [HS1.out.2.1] at h; rw [List.length_append]; simp; omega)).mono ?_
        rintro e z2 ⟨rfl, hX, hc⟩
        replace s0 := cell_chg s0 hc (by omega)
        replace HB := Lib.hid (below_chg HB.out hNr HR.out.lt hc)
        replace HS := Lib.hid (HS.out.other hc (by omega) (by omega))
        replace HT := Lib.hid (HT.out.other hc (by omega))
        replace HU := Lib.hid (HU.out.other hc (by omega))
        replace HR := Lib.hid hX
        rw [HA1.out.1]
        clear hX hc HL
        go_wp2_with fail
        refine (diff_any q p _).mono ?_
        rintro e w9 ⟨rfl, rfl⟩
        rw [HD0.out]
        go_wp2_with fail
        refine (acked_any Bt (t.sent now nx) (now + a2) u1 HI2.out HF1.out _ HT.out).mono ?_
        rintro e v31 ⟨rfl, hX, hc⟩
        replace HB := Lib.hid (below_chg HB.out hNt HT.out.lt hc)
        replace HS := Lib.hid (HS.out.other hc (by omega) (by omega))
        replace HR := Lib.hid (HR.out.other hc (by omega) (by omega))
        replace HU := Lib.hid (HU.out.other hc (by omega))
        replace HT := Lib.hid hX
        clear s0
        clear hX hc
        go_wp2_with fail
        refine (acked_any Bu (t.sent now nx) (now + a2) u1 HI2.out HF1.out _ HU.out).mono ?_
        rintro e v32 ⟨rfl, hX, hc⟩
        replace HB := Lib.hid (below_chg HB.out hNu HU.out.lt hc)
        replace HS := Lib.hid (HS.out.other hc (by omega) (by omega))
        replace HR := Lib.hid (HR.out.other hc (by omega) (by omega))
        replace HT := Lib.hid (HT.out.other hc (by omega))
        replace HU := Lib.hid hX
        clear hX hc
        obtain ⟨s2, hs2⟩ : ∃ s2, s2 = (s.sent nx).acked u1 [(bf, nx)] := ⟨_, rfl⟩
        have HOK2 := Lib.hid (show s2.Ok ∧ s2.next = nx by rw [hs2]; exact ⟨HA1.out.2.1, HA1.out.2.2.trans HS1.out.2.1⟩)
        rw [← hs2] at HS HR
        clear hs2
        obtain ⟨t2, ht2⟩ : ∃ t2, t2 = (t.sent now nx).acked (now + a2) u1 := ⟨_, rfl⟩
        rw [← ht2] at HT HU HF2
        clear ht2
        obtain ⟨an, han⟩ : ∃ an, an = (s.sent nx).ackN u1 [(bf, nx)] := ⟨_, rfl⟩
        rw [← han]
        clear han
        go_wp2_with fail
        refine (scsacked_any Bs lb s2 _ HS.out).mono ?_
        rintro e v33 ⟨vl, rfl, hO, hb⟩
        obtain ⟨la, lac, rfl, hsp, -, -⟩ := hO.at (canonF_len HOK2.out.1.csk)
        have HLA := Lib.hid hsp
        clear hO hsp
        replace HS := Lib.hid (HS.out.below hb)
        replace HR := Lib.hid (HR.out.below hb)
        replace HT := Lib.hid (HT.out.below hb)
        replace HU := Lib.hid (HU.out.below hb)
        replace HB := Lib.hid (HB.out.trans (hb.mono HB.out.size))
        clear hb
        go_wp2_with fail
        refine (scsacked_any Br lb s2 _ HR.out).mono ?_
        rintro e v34 ⟨vl, rfl, hO, hb⟩
        obtain ⟨lr, lrc, rfl, hsp, -, -⟩ := hO.at (canonF_len HOK2.out.1.csk)
        have HLR := Lib.hid hsp
        replace HLA := Lib.hid ((HLA.out.below hb).mono hb.size)
        clear hO hsp
        replace HS := Lib.hid (HS.out.below hb)
        replace HR := Lib.hid (HR.out.below hb)
        replace HT := Lib.hid (HT.out.below hb)
        replace HU := Lib.hid (HU.out.below hb)
        replace HB := Lib.hid (HB.out.trans (hb.mono HB.out.size))
        clear hb
        go_wp2_with fail
        refine (same_eq v34 v34.heap.size la lr lac lrc (s2.sk) HLA.out HLR.out (Nat.le_refl _)).mono ?_
        rintro e v35 ⟨rfl, hb⟩
        replace HS := Lib.hid (HS.out.below hb)
        replace HR := Lib.hid (HR.out.below hb)
        replace HT := Lib.hid (HT.out.below hb)
        replace HU := Lib.hid (HU.out.below hb)
        replace HB := Lib.hid (HB.out.trans (hb.mono HB.out.size))
        clear hb
        clear HLA HLR
        go_wp2_with fail
        refine (sclost_any Bs lb s2 10 _ HOK2.out.1 HS.out).mono ?_
        rintro e v36 ⟨vl, rfl, hO, hb⟩
        obtain ⟨la, lac, rfl, hsp, -, -⟩ := hO.at (canonF_len (lost_spec HOK2.out.1 (m := 10) (by omega)).1)
        have HLA := Lib.hid hsp
        clear hO hsp
        replace HS := Lib.hid (HS.out.below hb)
        replace HR := Lib.hid (HR.out.below hb)
        replace HT := Lib.hid (HT.out.below hb)
        replace HU := Lib.hid (HU.out.below hb)
        replace HB := Lib.hid (HB.out.trans (hb.mono HB.out.size))
        clear hb
        go_wp2_with fail
        refine (sclost_any Br lb s2 10 _ HOK2.out.1 HR.out).mono ?_
        rintro e v37 ⟨vl, rfl, hO, hb⟩
        obtain ⟨lr, lrc, rfl, hsp, -, -⟩ := hO.at (canonF_len (lost_spec HOK2.out.1 (m := 10) (by omega)).1)
        have HLR := Lib.hid hsp
        replace HLA := Lib.hid ((HLA.out.below hb).mono hb.size)
        clear hO hsp
        replace HS := Lib.hid (HS.out.below hb)
        replace HR := Lib.hid (HR.out.below hb)
        replace HT := Lib.hid (HT.out.below hb)
        replace HU := Lib.hid (HU.out.below hb)
        replace HB := Lib.hid (HB.out.trans (hb.mono HB.out.size))
        clear hb
        go_wp2_with fail
        refine (same_eq v37 v37.heap.size la lr lac lrc (s2.lost 10) HLA.out HLR.out (Nat.le_refl _)).mono ?_
        rintro e v38 ⟨rfl, hb⟩
        replace HS := Lib.hid (HS.out.below hb)
        replace HR := Lib.hid (HR.out.below hb)
        replace HT := Lib.hid (HT.out.below hb)
        replace HU := Lib.hid (HU.out.below hb)
        replace HB := Lib.hid (HB.out.trans (hb.mono HB.out.size))
        clear hb
        clear HLA HLR
        go_wp2_with fail
        refine (scpipe_any Bs lb s2 10 _ HOK2.out.1 HS.out).mono ?_
        rintro e v39 ⟨rfl, hb⟩
        replace HS := Lib.hid (HS.out.below hb)
        replace HR := Lib.hid (HR.out.below hb)
        replace HT := Lib.hid (HT.out.below hb)
        replace HU := Lib.hid (HU.out.below hb)
        replace HB := Lib.hid (HB.out.trans (hb.mono HB.out.size))
        clear hb
        go_wp2_with fail
        refine (scpipe_any Br lb s2 10 _ HOK2.out.1 HR.out).mono ?_
        rintro e v40 ⟨rfl, hb⟩
        replace HS := Lib.hid (HS.out.below hb)
        replace HR := Lib.hid (HR.out.below hb)
        replace HT := Lib.hid (HT.out.below hb)
        replace HU := Lib.hid (HU.out.below hb)
        replace HB := Lib.hid (HB.out.trans (hb.mono HB.out.size))
        clear hb
        go_wp2_with fail
        refine (value_any Bt t2 HF2.out.1 _ HT.out).mono ?_
        rintro e v41 ⟨rfl, hb⟩
        replace HS := Lib.hid (HS.out.below hb)
        replace HR := Lib.hid (HR.out.below hb)
        replace HT := Lib.hid (HT.out.below hb)
        replace HU := Lib.hid (HU.out.below hb)
        replace HB := Lib.hid (HB.out.trans (hb.mono HB.out.size))
        clear hb
        go_wp2_with fail
        refine (value_any Bu t2 HF2.out.1 _ HU.out).mono ?_
        rintro e v42 ⟨rfl, hb⟩
        replace HS := Lib.hid (HS.out.below hb)
        replace HR := Lib.hid (HR.out.below hb)
        replace HT := Lib.hid (HT.out.below hb)
        replace HU := Lib.hid (HU.out.below hb)
        replace HB := Lib.hid (HB.out.trans (hb.mono HB.out.size))
        clear hb
        go_wp2_with fail
        go_roundg (gk - 1)
        case measure => omega
        case rel => exact ⟨k + 1, now + a2, u1, s2, t2, by go_num, by go_num, rfl, by omega, by omega, by omega, by have := HOK2.out.2; omega, by have := HOK2.out.2; have := HNX0.out; omega, HOK2.out.1, HF2.out, HS.out, HR.out, HT.out, HU.out, HB.out⟩
      · obtain rfl : k = 20 := by omega
        have f1 : (20 : Int) < (len : Int) := by omega
        go_wp2_with fail
        go_ret
        exact ⟨rfl, HB.out⟩
    · obtain rfl : k = len := by omega
      go_wp2_with fail
      go_ret
      exact ⟨rfl, HB.out⟩
end Go.Proofs.Ytncjeleabpodaaa
