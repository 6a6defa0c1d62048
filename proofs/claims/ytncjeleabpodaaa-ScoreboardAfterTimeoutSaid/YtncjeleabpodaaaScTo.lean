/- ScoreboardAfterTimeout: its walk. -/
import Derived.Test.YtncjeleabpodaaaScMade
import Derived.Test.YtncjeleabpodaaaScSane
import Derived.Test.YtncjeleabpodaaaRgGaps
import Derived.Test.YtncjeleabpodaaaRgCount
import Derived.Deep.LoopGhost
import Derived.Deep.RegionHeld3
namespace Go.Proofs.Ytncjeleabpodaaa
open Go.RowKit Go.Shelf
theorem spat_chg {W W' : World} {C : Nat} {a : Option Addr} {L : List Sp} (h : SpAt W W.heap.size a L) (hc : Chg C W W') (hne : 0 < L.length → ∀ ad, a = some ad → ad.block ≠ C) : SpAt W' W'.heap.size a L := by
  have h2 : InL C a L W := ⟨h, hne⟩
  exact (h2.chg hc).1
theorem toP {t : Sc} (h : t.Ok) (hk : t.sk = []) (hg : t.ag = []) (hm : t.mark = t.next) (m : Int) (h1 : 1 ≤ m) : t.lost m = one t.una t.next ∧ t.pipe m = 0 := by
  have hu := h.un
  refine ⟨by rw [lost_empty h hk hg h1, hm, show min t.next t.next = t.next by omega], ?_⟩
  rw [pipe_empty h hk hg h1, hm]
  omega
theorem toL {t : Sc} (h : t.Ok) (hk : t.sk = []) (hg : t.ag = []) (m : Int) (h1 : 1 ≤ m) : t.lost m = one t.una (min t.next t.mark) ∧ t.pipe m = t.next - max t.una (min t.next t.mark) :=
  ⟨lost_empty h hk hg h1, pipe_empty h hk hg h1⟩
theorem scat_empty {B lb : Nat} {s : Sc} {W : World} (h : ScAt B lb s W) (hk : s.sk = []) (hg : s.ag = []) : ScAt B W.heap.size s W := by
  have hl := h.lt
  obtain ⟨h1, h2, sa, sc, ga, gc, hc, ls, lg⟩ := h
  exact ⟨⟨hl, hl⟩, ⟨Nat.le_refl _, Nat.le_refl _⟩, sa, sc, ga, gc, hc, ⟨ls.1, ls.2.1, fun hp => absurd hp (by rw [hk]; simp), ls.2.2.2⟩, ⟨lg.1, lg.2.1, fun hp => absurd hp (by rw [hg]; simp), lg.2.2.2⟩⟩
theorem spanL_pos (x : Sp) {next : Int} (h : 1 ≤ next) : ∃ a b, spanL x next = [(a, b)] ∧ 0 ≤ a ∧ a < b ∧ b ≤ next := by
  have e : spanL x next = [(pickV x.1 next, pickV x.1 next + 1 + pickV x.2 (next - pickV x.1 next))] := by unfold spanL; rw [if_neg (by omega)]
  have h1 := pickV_bd x.1 next h
  have h2 := pickV_bd x.2 (next - pickV x.1 next) (by omega)
  exact ⟨_, _, e, by omega, by omega, by omega⟩
theorem own_at {W : World} {base : Nat} {v : Value} {a b : Int} (h : OwnSp W base v [(a, b)]) : ∃ g cap, v = .slice (some ⟨g, 0, none⟩) 1 cap ∧ base ≤ g ∧ g < W.heap.size ∧ At g 0 (.int .i64 a) W ∧ At g 1 (.int .i64 b) W := by
  rcases h.2 with ⟨_, hn⟩ | ⟨g, cap, cur, hv, hbg, hg, hnc, hcm, hcs, htake⟩
  · cases hn
  · have hc := World.ownsRow.cells h (g := g) (by rw [hv]; rfl)
    refine ⟨g, cap, hv, hbg, (Array.getElem?_eq_some_iff.1 hg).1, ⟨?_, frozen_of_row _ _ _ _ _ hg⟩, ⟨?_, frozen_of_row _ _ _ _ _ hg⟩⟩
    · have := hc 0 _ rfl; simpa [Addr.add] using this
    · have := hc 1 _ rfl; simpa [Addr.add] using this
theorem after_canon {s : Sc} (h : s.Ok) {m : Int} (hm : 1 ≤ m) : canonF (-1) (s.lost m) = true := (lost_spec h hm).1
theorem toA {u : Sc} (h : u.Ok) (hg : u.ag = []) (hk : u.sk = []) {b : Int} (hu : u.una = b) (h0 : 0 ≤ b) {y1 y2 : Int} (hy0 : 0 ≤ y1) (hy : y1 < y2) (hm : y2 ≤ u.mark) (hmn : u.mark ≤ u.next) (m : Int) (h1 : 1 ≤ m) (hb : b < u.mark) :
    u.ackE b [(y1, y2)] = 0 ∧ (u.acked b [(y1, y2)]).lost m = if max y1 b < y2 then remF (max y1 b, y2) [(b, u.mark)] else [(b, u.mark)] := by
  subst hu
  have hun := h.un
  have hB : u.ackB u.una [(y1, y2)] = true := Sc.ackB_iff.2 ⟨⟨h0, hun⟩, fun x hx => by rw [List.mem_singleton.1 hx]; exact Sc.inB_iff.2 ⟨hy0, hy, by show y2 ≤ u.next; omega⟩⟩
  have e : u.acked u.una [(y1, y2)] = u.ackS u.una [(y1, y2)] := by unfold Sc.acked; rw [if_pos hB]
  have ho := h.ackS hB
  obtain ⟨c1, c2⟩ := h.ack_sk hB
  have hmx : max u.una u.una = u.una := by omega
  have hsk : ∀ i, Mem i (u.ackS u.una [(y1, y2)]).sk ↔ u.una ≤ i ∧ y1 ≤ i ∧ i < y2 := fun i => by
    rw [c2, hmx, hk, mem_cons]
    constructor
    · rintro ⟨k, k2 | k2 | k2⟩
      · exact (mem_nil k2).elim
      · exact ⟨k, k2⟩
      · exact (mem_nil k2).elim
    · rintro ⟨k, k2⟩; exact ⟨k, .inr (.inl k2)⟩
  have hag : (u.ackS u.una [(y1, y2)]).ag = [] := by
    show wthF (mergedL _ u.ag) _ = []
    rw [hg]; rfl
  have hmk : (u.ackS u.una [(y1, y2)]).mark = u.mark := rfl
  have hnx : (u.ackS u.una [(y1, y2)]).next = u.next := rfl
  have hua : (u.ackS u.una [(y1, y2)]).una = u.una := hmx
  obtain ⟨l1, l2⟩ := after_lost ho h1 hag (fun i hi => by have := (hsk i).1 hi; rw [hmk]; omega)
  have hn40 := h.n40
  refine ⟨by unfold Sc.ackE; rw [if_pos hB], ?_⟩
  rw [e]
  have cw : canonF (-1) [(u.una, u.mark)] = true := canonB_one.2 ⟨h0, hb, by omega⟩
  split
  · rename_i hlt
    obtain ⟨r1, r2⟩ := remF_spec (s := (max y1 u.una, y2)) cw hlt
    refine canonF_unique l1 r1 (fun i => ?_)
    rw [l2, r2, hsk, hua, hnx, hmk, mem_cons]
    dsimp only
    constructor
    · rintro ⟨k, k2⟩; exact ⟨.inl (by omega), by omega⟩
    · rintro ⟨k | k, k2⟩
      · exact ⟨by omega, by omega⟩
      · exact (mem_nil k).elim
  · rename_i hlt
    refine canonF_unique l1 cw (fun i => ?_)
    rw [l2, hsk, hua, hnx, hmk, mem_cons]
    dsimp only
    constructor
    · rintro ⟨k, k2⟩; exact .inl (by omega)
    · rintro (k | k)
      · exact ⟨by omega, by omega⟩
      · exact (mem_nil k).elim
theorem toS {t : Sc} (_h : t.Ok) {n : Int} (hn : 0 ≤ n) (h2 : t.next + n ≤ 1099511627776) : t.sent (t.next + n) = { t with next := t.next + n } ∧ t.sentE (t.next + n) = 0 := by
  have hb : t.sentB (t.next + n) = true := by unfold Sc.sentB; rw [decide_eq_true_iff]; omega
  exact ⟨by unfold Sc.sent; rw [if_pos hb], by unfold Sc.sentE; rw [if_pos hb]⟩
set_option maxRecDepth 100000 in
set_option maxHeartbeats 4000000 in
theorem walk_ScoreboardAfterTimeout (w : World) (a : Option Addr) (len cap : Nat) (cs : Nat → Cl) (hrow : IsCalls w a len cs) (more : Int) (hwm : (Lit.int .i64 more).wf = true) (x1 x2 : Int) (hx1 : I64 x1) (hx2 : I64 x2) (mss : Int) (hw : (Lit.int .i64 mss).wf = true) :
    Calls Try.prog 7 #[.slice a len cap, .int .i64 more, .agg #[.int .i64 x1, .int .i64 x2], .int .i64 mss] w fun e w' => e = .returned (.bool true) ∧ Below w.heap.size w w' := by
  have hmss : I64 mss := bounds_i64 hw
  clear hw
  have hmore : I64 more := bounds_i64 hwm
  clear hwm
  have hxb := rcBel w (.cells #[.int .i64 x1, .int .i64 x2] 51)
  have hrow1 := hrow.below hxb
  have e0 := At.new (W := w) (i := 0) (v := .int .i64 x1) (vs := #[.int .i64 x1, .int .i64 x2]) 51 rfl rfl
  have e1 := At.new (W := w) (i := 1) (v := .int .i64 x2) (vs := #[.int .i64 x1, .int .i64 x2]) 51 rfl rfl
  clear hrow
  have hml := hrow1.1
  unfold maxLen at hml
  have HROW := Lib.hid hrow1
  clear hrow1
  go_enter Try.func7, Try.ntmps7
  go_wp2_with fail
  have HW0 := Lib.hid hxb
  obtain ⟨Xb, hXb⟩ : ∃ Xb, Xb = w.heap.size := ⟨_, rfl⟩
  rw [← hXb] at e0 e1 ⊢
  have HXE := Lib.hid hXb
  clear hXb hxb
  have hXs := e0.lt
  generalize w.alloc (.cells #[.int .i64 x1, .int .i64 x2] 51) = wx at HW0 HROW e0 e1 hXs ⊢
  refine (sane_any _).mono ?_
  rintro e v0 ⟨rfl, hb0⟩
  replace e0 := e0.below hb0 hXs
  replace e1 := e1.below hb0 hXs
  replace HROW := Lib.hid (HROW.out.below hb0)
  replace hXs := Nat.lt_of_lt_of_le hXs hb0.size
  have HB := Lib.hid (HW0.out.trans (hb0.mono HW0.out.size))
  clear hb0 HW0
  go_wp2_with fail
  refine (made_any v0 _ len cap cs HROW.out).mono ?_
  rintro e w1 ⟨Bs, Br, lb, s, rfl, ok, hn, hsl, hNs0, hs, hb⟩
  have hNs : w.heap.size ≤ Bs := Nat.le_trans HB.out.size hNs0
  have hXB : Xb ≠ Bs := by omega
  replace e0 := e0.below hb hXs
  replace e1 := e1.below hb hXs
  have HS := Lib.hid hs
  have HOK := Lib.hid ok
  replace HB := Lib.hid (HB.out.trans (hb.mono HB.out.size))
  clear hs hb ok hNs0 HROW hml hXs
  obtain ⟨z0, g0⟩ := e0
  obtain ⟨z1, g1⟩ := e1
  clear g0 g1
  have HPM := Lib.hid (fun W => pick_any mss 20 W hmss (by omega) (by omega))
  have hpm := pickV_bd mss 20 (by omega)
  generalize pickV mss 20 = m0 at HPM hpm ⊢
  go_wp2_with fail
  refine (HPM.out _).mono ?_
  rintro e w1' ⟨rfl, rfl⟩
  clear HPM
  go_wp2_with fail
  obtain ⟨m, hm⟩ : ∃ m, m = 1 + m0 := ⟨_, rfl⟩
  rw [← hm]
  have hm1 : 1 ≤ m := by omega
  have hm2 : m ≤ 20 := by omega
  clear hm hpm
  refine (sctimeout_any Bs _ s _ HS.out).mono ?_
  rintro e v1 ⟨rfl, hS, hc⟩
  replace HB := Lib.hid (HB.out.trans (hc.below hNs HS.out.lt))
  replace z0 := cell_chg z0 hc hXB
  replace z1 := cell_chg z1 hc hXB
  replace HS := Lib.hid hS
  clear hS hc
  go_wp2_with fail
  have HOT := Lib.hid HOK.out.timeout
  have hu0 := HOK.out.u0
  have hu1 := HOK.out.un
  obtain ⟨t, ht⟩ : ∃ t, t = s.timeout := ⟨_, rfl⟩
  have HTU := Lib.hid (show t.una = s.una ∧ t.next = s.next ∧ t.mark = s.next ∧ t.sk = [] ∧ t.ag = [] by rw [ht]; exact ⟨rfl, rfl, rfl, rfl, rfl⟩)
  rw [← ht] at HS HOT
  clear ht
  have HT1 := Lib.hid (toP HOT.out HTU.out.2.2.2.1 HTU.out.2.2.2.2 (by rw [HTU.out.2.1, HTU.out.2.2.1]) m hm1)
  refine (scuna_any Bs _ t _ HS.out).mono ?_
  rintro e v2 ⟨rfl, hb⟩
  replace HS := Lib.hid (HS.out.below hb)
  replace HB := Lib.hid (HB.out.trans (hb.mono HB.out.size))
  replace z0 := cell_bel2 z0 (block_lt_of_cell z0) hb
  replace z1 := cell_bel2 z1 (block_lt_of_cell z1) hb
  clear hb
  rw [HTU.out.1]
  go_wp2_with fail
  refine (scnext_any Bs _ t _ HS.out).mono ?_
  rintro e v3 ⟨rfl, hb⟩
  replace HS := Lib.hid (HS.out.below hb)
  replace HB := Lib.hid (HB.out.trans (hb.mono HB.out.size))
  replace z0 := cell_bel2 z0 (block_lt_of_cell z0) hb
  replace z1 := cell_bel2 z1 (block_lt_of_cell z1) hb
  clear hb
  rw [HTU.out.2.1]
  rw [HTU.out.1, HTU.out.2.1] at HT1
  by_cases hun : s.una = s.next
  · rw [hun] at HT1 ⊢
    have HL := Lib.hid (show t.lost m = [] by rw [HT1.out.1]; unfold one; rw [if_neg (by omega)])
    go_wp2_with fail
    refine (sclost_any Bs _ t m _ HOT.out HS.out).mono ?_
    rintro e v4 ⟨vl, rfl, hO, hb⟩
    rw [HL.out] at hO
    obtain ⟨b3, c3, rfl, -⟩ := hO.val
    clear hO
    replace HS := Lib.hid (HS.out.below hb)
    replace HB := Lib.hid (HB.out.trans (hb.mono HB.out.size))
    replace z0 := cell_bel2 z0 (block_lt_of_cell z0) hb
    replace z1 := cell_bel2 z1 (block_lt_of_cell z1) hb
    clear hb
    go_wp2_with fail
    refine (scpipe_any Bs _ t m _ HOT.out HS.out).mono ?_
    rintro e v5 ⟨rfl, hb⟩
    replace HS := Lib.hid (HS.out.below hb)
    replace HB := Lib.hid (HB.out.trans (hb.mono HB.out.size))
    replace z0 := cell_bel2 z0 (block_lt_of_cell z0) hb
    replace z1 := cell_bel2 z1 (block_lt_of_cell z1) hb
    clear hb
    rw [HT1.out.2]
    go_wp2_with fail
    go_ret
    exact ⟨rfl, HB.out⟩
  · have hun2 : (s.una == s.next) = false := by simp [hun]
    have hlt : s.una < s.next := by omega
    have HL := Lib.hid (show t.lost m = [(s.una, s.next)] by rw [HT1.out.1]; unfold one; rw [if_pos hlt])
    go_wp2_with fail
    have hb := rcBel v3 (.cells #[.int .i64 s.una, .int .i64 s.next] 51)
    have hq : SpAt (v3.alloc (.cells #[.int .i64 s.una, .int .i64 s.next] 51)) (v3.alloc (.cells #[.int .i64 s.una, .int .i64 s.next] 51)).heap.size (some ⟨v3.heap.size, 0, none⟩) [(s.una, s.next)] := spat_one v3 s.una s.next
    have HWT := Lib.hid hq
    clear hq
    obtain ⟨Wb, hWb⟩ : ∃ Wb, Wb = v3.heap.size := ⟨_, rfl⟩
    rw [← hWb] at HWT ⊢
    have hWBs : Wb ≠ Bs := by have := HS.out.lt; omega
    clear hWb
    replace HS := Lib.hid (HS.out.below hb)
    replace HB := Lib.hid (HB.out.trans (hb.mono HB.out.size))
    replace z0 := cell_bel2 z0 (block_lt_of_cell z0) hb
    replace z1 := cell_bel2 z1 (block_lt_of_cell z1) hb
    clear hb
    generalize v3.alloc (.cells #[.int .i64 s.una, .int .i64 s.next] 51) = v4 at HS HB HWT z0 z1 ⊢
    refine (sclost_any Bs _ t m _ HOT.out HS.out).mono ?_
    rintro e v5 ⟨vl, rfl, hO, hb⟩
    rw [HL.out] at hO
    obtain ⟨la, lc, rfl, hsp, -, -⟩ := hO.at (by simp)
    have HLS := Lib.hid hsp
    clear hO hsp
    replace HS := Lib.hid (HS.out.below hb)
    replace HB := Lib.hid (HB.out.trans (hb.mono HB.out.size))
    replace z0 := cell_bel2 z0 (block_lt_of_cell z0) hb
    replace z1 := cell_bel2 z1 (block_lt_of_cell z1) hb
    replace HWT := Lib.hid ((HWT.out.below hb).mono hb.size)
    clear hb
    go_wp2_with fail
    refine (rsame_any v5 v5.heap.size la (some ⟨Wb, 0, none⟩) lc 1 ([(s.una, s.next)]) ([(s.una, s.next)]) HLS.out HWT.out (Nat.le_refl _)).mono ?_
    rintro e v6 ⟨rfl, hb⟩
    replace HS := Lib.hid (HS.out.below hb)
    replace HB := Lib.hid (HB.out.trans (hb.mono HB.out.size))
    replace z0 := cell_bel2 z0 (block_lt_of_cell z0) hb
    replace z1 := cell_bel2 z1 (block_lt_of_cell z1) hb
    replace HWT := Lib.hid ((HWT.out.below hb).mono hb.size)
    clear hb
    clear HLS
    rw [decide_eq_true (show [(s.una, s.next)] = [(s.una, s.next)] from rfl)]
    go_wp2_with fail
    refine (scpipe_any Bs _ t m _ HOT.out HS.out).mono ?_
    rintro e v7 ⟨rfl, hb⟩
    replace HS := Lib.hid (HS.out.below hb)
    replace HB := Lib.hid (HB.out.trans (hb.mono HB.out.size))
    replace z0 := cell_bel2 z0 (block_lt_of_cell z0) hb
    replace z1 := cell_bel2 z1 (block_lt_of_cell z1) hb
    replace HWT := Lib.hid ((HWT.out.below hb).mono hb.size)
    clear hb
    rw [HT1.out.2]
    go_wp2_with fail
    have HPN := Lib.hid (fun W => pick_any more (2 * m) W hmore (by omega) (by omega))
    have hpn := pickV_bd more (2 * m) (by omega)
    generalize pickV more (2 * m) = n at HPN hpn ⊢
    refine (HPN.out _).mono ?_
    rintro e w1'' ⟨rfl, rfl⟩
    clear HPN
    have hpn2 : 0 ≤ n ∧ n ≤ 40 := by omega
    go_wp2_with fail
    have HSN := Lib.hid (toS HOT.out (n := n) (by omega) (by rw [HTU.out.2.1]; omega))
    rw [HTU.out.2.1] at HSN
    obtain ⟨u, hu⟩ : ∃ u, u = t.sent (s.next + n) := ⟨_, rfl⟩
    have HU := Lib.hid (show u.una = s.una ∧ u.next = s.next + n ∧ u.mark = s.next ∧ u.sk = [] ∧ u.ag = [] by rw [hu, HSN.out.1]; exact ⟨HTU.out.1, rfl, HTU.out.2.2.1, HTU.out.2.2.2.1, HTU.out.2.2.2.2⟩)
    have HOU := Lib.hid (show u.Ok by rw [hu]; exact HOT.out.sent _)
    refine (scsent_any Bs _ t (s.next + n) _ HS.out).mono ?_
    rintro e v8 ⟨rfl, hS, hc⟩
    replace HB := Lib.hid (HB.out.trans (hc.below hNs HS.out.lt))
    replace z0 := cell_chg z0 hc hXB
    replace z1 := cell_chg z1 hc hXB
    replace HWT := Lib.hid (spat_chg HWT.out hc (fun _ ad e => by cases e; exact hWBs))
    rw [← hu] at hS
    replace HS := Lib.hid hS
    clear hS hc
    rw [HSN.out.2]
    clear hu HSN
    have HU1 := Lib.hid (toL HOU.out HU.out.2.2.2.1 HU.out.2.2.2.2 m hm1)
    have HLU := Lib.hid (show u.lost m = [(s.una, s.next)] by rw [HU1.out.1, HU.out.1, HU.out.2.1, HU.out.2.2.1, show min (s.next + n) s.next = s.next by omega]; unfold one; rw [if_pos hlt])
    have HPU := Lib.hid (show u.pipe m = n by rw [HU1.out.2, HU.out.1, HU.out.2.1, HU.out.2.2.1]; omega)
    go_wp2_with fail
    refine (sclost_any Bs _ u m _ HOU.out HS.out).mono ?_
    rintro e v9 ⟨vl, rfl, hO, hb⟩
    rw [HLU.out] at hO
    obtain ⟨la, lc, rfl, hsp, -, -⟩ := hO.at (by simp)
    have HLS := Lib.hid hsp
    clear hO hsp
    replace HS := Lib.hid (HS.out.below hb)
    replace HB := Lib.hid (HB.out.trans (hb.mono HB.out.size))
    replace z0 := cell_bel2 z0 (block_lt_of_cell z0) hb
    replace z1 := cell_bel2 z1 (block_lt_of_cell z1) hb
    replace HWT := Lib.hid ((HWT.out.below hb).mono hb.size)
    clear hb
    go_wp2_with fail
    refine (rsame_any v9 v9.heap.size la (some ⟨Wb, 0, none⟩) lc 1 ([(s.una, s.next)]) ([(s.una, s.next)]) HLS.out HWT.out (Nat.le_refl _)).mono ?_
    rintro e v10 ⟨rfl, hb⟩
    replace HS := Lib.hid (HS.out.below hb)
    replace HB := Lib.hid (HB.out.trans (hb.mono HB.out.size))
    replace z0 := cell_bel2 z0 (block_lt_of_cell z0) hb
    replace z1 := cell_bel2 z1 (block_lt_of_cell z1) hb
    replace HWT := Lib.hid ((HWT.out.below hb).mono hb.size)
    clear hb
    clear HLS
    rw [decide_eq_true (show [(s.una, s.next)] = [(s.una, s.next)] from rfl)]
    go_wp2_with fail
    refine (scpipe_any Bs _ u m _ HOU.out HS.out).mono ?_
    rintro e v11 ⟨rfl, hb⟩
    replace HS := Lib.hid (HS.out.below hb)
    replace HB := Lib.hid (HB.out.trans (hb.mono HB.out.size))
    replace z0 := cell_bel2 z0 (block_lt_of_cell z0) hb
    replace z1 := cell_bel2 z1 (block_lt_of_cell z1) hb
    replace HWT := Lib.hid ((HWT.out.below hb).mono hb.size)
    clear hb
    rw [HPU.out]
    go_wp2_with fail
    have hn40 : s.next ≤ 1200 := hn
    have HSP := Lib.hid (spanL_pos (x1, x2) (next := s.next) (by omega))
    refine (span_any x1 x2 s.next _ hx1 hx2 (by omega)).mono ?_
    rintro e v12 ⟨vy, rfl, hO, hb⟩
    obtain ⟨y1, y2, hyL, hy⟩ := HSP.out
    rw [hyL] at hO
    obtain ⟨Yb, yc, rfl, hYn, hYl, hY0, hY1⟩ := own_at hO
    have hYB : Yb ≠ Bs := by have := HS.out.lt; omega
    have hYN : w.heap.size ≤ Yb := by have := HB.out.size; omega
    have hYW : Wb ≠ Yb := by obtain ⟨b9, o9, e9, h9, -⟩ := HWT.out.cells (by simp); cases e9; omega
    clear hO hyL hYn HSP
    replace HS := Lib.hid (HS.out.below hb)
    replace HB := Lib.hid (HB.out.trans (hb.mono HB.out.size))
    replace z0 := cell_bel2 z0 (block_lt_of_cell z0) hb
    replace z1 := cell_bel2 z1 (block_lt_of_cell z1) hb
    replace HWT := Lib.hid ((HWT.out.below hb).mono hb.size)
    clear hb
    go_wp2_with fail
    obtain ⟨lb2, hlb2⟩ : ∃ lb2, lb2 = v12.heap.size := ⟨_, rfl⟩
    replace HS := Lib.hid (show ScAt Bs lb2 u v12 by rw [hlb2]; exact scat_empty HS.out HU.out.2.2.2.1 HU.out.2.2.2.2)
    have hYlb : Yb < lb2 := by omega
    clear hlb2
    have hil : InL Bs (some ⟨Yb, 0, none⟩) [(y1, y2)] v12 := ⟨⟨by simp, fun _ => ⟨Yb, 0, rfl, hYl, fun i hi => by obtain rfl : i = 0 := (by simpa using hi); exact ⟨hY0.1, hY1.1⟩⟩⟩, fun _ ad e => by cases e; exact hYB⟩
    have HAW := Lib.hid (toA HOU.out HU.out.2.2.2.2 HU.out.2.2.2.1 HU.out.1 hu0 hy.1 hy.2.1 (show y2 ≤ u.mark by rw [HU.out.2.2.1]; exact hy.2.2) (show u.mark ≤ u.next by rw [HU.out.2.2.1, HU.out.2.1]; omega) m hm1 (by rw [HU.out.2.2.1]; exact hlt))
    rw [HU.out.2.2.1] at HAW
    have HOA := Lib.hid (HOU.out.acked s.una [(y1, y2)])
    refine (scacked_any Bs _ u s.una (some ⟨Yb, 0, none⟩) yc [(y1, y2)] _ HOU.out HS.out hil (by rw [HU.out.2.2.2.1]; simp)).mono ?_
    rintro e v13 ⟨rfl, hS, hc⟩
    replace HB := Lib.hid (HB.out.trans (hc.below hNs HS.out.lt))
    replace z0 := cell_chg z0 hc hXB
    replace z1 := cell_chg z1 hc hXB
    replace HWT := Lib.hid (spat_chg HWT.out hc (fun _ ad e => by cases e; exact hWBs))
    replace hY0 := at_chg hY0 hc hYB
    replace hY1 := at_chg hY1 hc hYB
    replace HS := Lib.hid hS
    clear hS hc
    rw [HAW.out.1]
    clear hil HOU HU1 HLU HPU hYl
    obtain ⟨an, han⟩ : ∃ an, an = u.ackN s.una [(y1, y2)] := ⟨_, rfl⟩
    rw [← han]
    clear han
    generalize u.acked s.una [(y1, y2)] = a9 at HS HAW HOA ⊢
    have HLA := Lib.hid (canonF_len (after_canon HOA.out hm1))
    obtain ⟨LA, hLA⟩ : ∃ LA, LA = a9.lost m := ⟨_, rfl⟩
    rw [← hLA] at HAW HLA
    have HLL := Lib.hid hLA.symm
    clear hLA
    obtain ⟨y00, y01⟩ := hY0
    obtain ⟨y10, y11⟩ := hY1
    clear z0 z1
    rcases Int.lt_or_le y1 s.una with hyu | hyu
    · have hmx : max y1 s.una = s.una := by omega
      go_wp2_with fail
      by_cases hzy : s.una < y2
      · have hch := (Chg.refl Yb v13).setCell 0 (.int .i64 s.una)
        replace HS := Lib.hid (HS.out.other hch hYB.symm hYlb)
        replace HWT := Lib.hid (spat_chg HWT.out hch (fun _ ad e => by cases e; exact hYW))
        replace HB := Lib.hid (HB.out.setCell (p := ⟨Yb, 0, none⟩) hYN (.int .i64 s.una))
        have z0 := ((show At Yb 0 _ v13 from ⟨y00, y01⟩).set (.int .i64 s.una)).1
        have z1 := ((show At Yb 1 _ v13 from ⟨y10, y11⟩).other ⟨Yb, 0, none⟩ (.int .i64 s.una) (by intro e; cases e)).1
        clear hch y00 y01 y10 y11
        generalize v13.setCell ⟨Yb, 0, none⟩ (.int .i64 s.una) = ws at HS HWT HB z0 z1 ⊢
        go_quiet (fail)
        replace HS := Lib.hid (HS.out.below (show Below ws.heap.size ws (ws.drewN nq) from ⟨rfl, rfl, rfl, Nat.le_refl _, fun _ _ => rfl⟩))
        replace HWT := Lib.hid (show SpAt (ws.drewN nq) (ws.drewN nq).heap.size (some ⟨Wb, 0, none⟩) [(s.una, s.next)] from (HWT.out.below (show Below ws.heap.size ws (ws.drewN nq) from ⟨rfl, rfl, rfl, Nat.le_refl _, fun _ _ => rfl⟩)).mono (Nat.le_refl _))
        replace HB := Lib.hid (HB.out.trans (show Below w.heap.size ws (ws.drewN nq) from ⟨rfl, rfl, rfl, Nat.le_refl _, fun _ _ => rfl⟩))
        replace z0 := (show (ws.drewN nq).cell? _ = some (.int .i64 s.una) from z0)
        replace z1 := (show (ws.drewN nq).cell? _ = some (.int .i64 y2) from z1)
        generalize ws.drewN nq = wt at HS HWT HB z0 z1 ⊢
        go_wp2_with fail
        refine (rremove_any wt wt.heap.size (some ⟨Wb, 0, none⟩) 1 [(s.una, s.next)] (s.una, y2) HWT.out (Nat.le_refl _)).mono ?_
        rintro e v61 ⟨vr, rfl, hO, hb⟩
        rw [show remL [(s.una, s.next)] (s.una, y2) = LA by unfold remL; rw [if_pos (takesB_iff.2 ⟨canonB_one.2 ⟨hu0, hlt, by dsimp only; omega⟩, by dsimp only; omega, by dsimp only; omega, by dsimp only; omega⟩), HAW.out.2, hmx, if_pos (by omega)]] at hO
        obtain ⟨ra, rc, rfl, hsp, -, -⟩ := hO.at HLA.out
        have HR := Lib.hid hsp
        clear hO hsp
        replace HS := Lib.hid (HS.out.below hb)
        replace HB := Lib.hid (HB.out.trans (hb.mono HB.out.size))
        replace z0 := cell_bel2 z0 (block_lt_of_cell z0) hb
        replace z1 := cell_bel2 z1 (block_lt_of_cell z1) hb
        clear hb
        clear HWT
        go_wp2_with fail
        refine (sclost_any Bs _ a9 m _ HOA.out HS.out).mono ?_
        rintro e v62 ⟨vl, rfl, hO, hb⟩
        rw [HLL.out] at hO
        obtain ⟨la, lc, rfl, hsp, -, -⟩ := hO.at HLA.out
        have HLS := Lib.hid hsp
        clear hO hsp
        replace HS := Lib.hid (HS.out.below hb)
        replace HB := Lib.hid (HB.out.trans (hb.mono HB.out.size))
        replace z0 := cell_bel2 z0 (block_lt_of_cell z0) hb
        replace z1 := cell_bel2 z1 (block_lt_of_cell z1) hb
        replace HR := Lib.hid ((HR.out.below hb).mono hb.size)
        clear hb
        go_wp2_with fail
        refine (rsame_any v62 v62.heap.size la ra lc rc LA LA HLS.out HR.out (Nat.le_refl _)).mono ?_
        rintro e v63 ⟨rfl, hb⟩
        rw [decide_eq_true (show LA = LA from rfl)]
        replace HB := Lib.hid (HB.out.trans (hb.mono HB.out.size))
        clear hb
        go_wp2_with fail
        go_ret
        exact ⟨rfl, HB.out⟩
      · have hch := (Chg.refl Yb v13).setCell 0 (.int .i64 s.una)
        replace HS := Lib.hid (HS.out.other hch hYB.symm hYlb)
        replace HWT := Lib.hid (spat_chg HWT.out hch (fun _ ad e => by cases e; exact hYW))
        replace HB := Lib.hid (HB.out.setCell (p := ⟨Yb, 0, none⟩) hYN (.int .i64 s.una))
        have z0 := ((show At Yb 0 _ v13 from ⟨y00, y01⟩).set (.int .i64 s.una)).1
        have z1 := ((show At Yb 1 _ v13 from ⟨y10, y11⟩).other ⟨Yb, 0, none⟩ (.int .i64 s.una) (by intro e; cases e)).1
        clear hch y00 y01 y10 y11
        generalize v13.setCell ⟨Yb, 0, none⟩ (.int .i64 s.una) = ws at HS HWT HB z0 z1 ⊢
        go_quiet (fail)
        replace HS := Lib.hid (HS.out.below (show Below ws.heap.size ws (ws.drewN nq) from ⟨rfl, rfl, rfl, Nat.le_refl _, fun _ _ => rfl⟩))
        replace HWT := Lib.hid (show SpAt (ws.drewN nq) (ws.drewN nq).heap.size (some ⟨Wb, 0, none⟩) [(s.una, s.next)] from (HWT.out.below (show Below ws.heap.size ws (ws.drewN nq) from ⟨rfl, rfl, rfl, Nat.le_refl _, fun _ _ => rfl⟩)).mono (Nat.le_refl _))
        replace HB := Lib.hid (HB.out.trans (show Below w.heap.size ws (ws.drewN nq) from ⟨rfl, rfl, rfl, Nat.le_refl _, fun _ _ => rfl⟩))
        replace z0 := (show (ws.drewN nq).cell? _ = some (.int .i64 s.una) from z0)
        replace z1 := (show (ws.drewN nq).cell? _ = some (.int .i64 y2) from z1)
        generalize ws.drewN nq = wt at HS HWT HB z0 z1 ⊢
        go_wp2_with fail
        have HLE := Lib.hid (show [(s.una, s.next)] = LA by rw [HAW.out.2, hmx, if_neg (by omega)])
        refine (sclost_any Bs _ a9 m _ HOA.out HS.out).mono ?_
        rintro e v61 ⟨vl, rfl, hO, hb⟩
        rw [HLL.out] at hO
        obtain ⟨la, lc, rfl, hsp, -, -⟩ := hO.at HLA.out
        have HLS := Lib.hid hsp
        clear hO hsp
        replace HS := Lib.hid (HS.out.below hb)
        replace HB := Lib.hid (HB.out.trans (hb.mono HB.out.size))
        replace z0 := cell_bel2 z0 (block_lt_of_cell z0) hb
        replace z1 := cell_bel2 z1 (block_lt_of_cell z1) hb
        replace HWT := Lib.hid ((HWT.out.below hb).mono hb.size)
        clear hb
        go_wp2_with fail
        refine (rsame_any v61 v61.heap.size la (some ⟨Wb, 0, none⟩) lc 1 LA [(s.una, s.next)] HLS.out HWT.out (Nat.le_refl _)).mono ?_
        rintro e v62 ⟨rfl, hb⟩
        rw [decide_eq_true HLE.out.symm]
        replace HB := Lib.hid (HB.out.trans (hb.mono HB.out.size))
        clear hb
        go_wp2_with fail
        go_ret
        exact ⟨rfl, HB.out⟩
    · have hmx : max y1 s.una = y1 := by omega
      have hzy : y1 < y2 := hy.2.1
      go_wp2_with fail
      have hch := (Chg.refl Yb v13).setCell 0 (.int .i64 y1)
      replace HS := Lib.hid (HS.out.other hch hYB.symm hYlb)
      replace HWT := Lib.hid (spat_chg HWT.out hch (fun _ ad e => by cases e; exact hYW))
      replace HB := Lib.hid (HB.out.setCell (p := ⟨Yb, 0, none⟩) hYN (.int .i64 y1))
      have z0 := ((show At Yb 0 _ v13 from ⟨y00, y01⟩).set (.int .i64 y1)).1
      have z1 := ((show At Yb 1 _ v13 from ⟨y10, y11⟩).other ⟨Yb, 0, none⟩ (.int .i64 y1) (by intro e; cases e)).1
      clear hch y00 y01 y10 y11
      generalize v13.setCell ⟨Yb, 0, none⟩ (.int .i64 y1) = ws at HS HWT HB z0 z1 ⊢
      go_quiet (fail)
      replace HS := Lib.hid (HS.out.below (show Below ws.heap.size ws (ws.drewN nq) from ⟨rfl, rfl, rfl, Nat.le_refl _, fun _ _ => rfl⟩))
      replace HWT := Lib.hid (show SpAt (ws.drewN nq) (ws.drewN nq).heap.size (some ⟨Wb, 0, none⟩) [(s.una, s.next)] from (HWT.out.below (show Below ws.heap.size ws (ws.drewN nq) from ⟨rfl, rfl, rfl, Nat.le_refl _, fun _ _ => rfl⟩)).mono (Nat.le_refl _))
      replace HB := Lib.hid (HB.out.trans (show Below w.heap.size ws (ws.drewN nq) from ⟨rfl, rfl, rfl, Nat.le_refl _, fun _ _ => rfl⟩))
      replace z0 := (show (ws.drewN nq).cell? _ = some (.int .i64 y1) from z0)
      replace z1 := (show (ws.drewN nq).cell? _ = some (.int .i64 y2) from z1)
      generalize ws.drewN nq = wt at HS HWT HB z0 z1 ⊢
      go_wp2_with fail
      refine (rremove_any wt wt.heap.size (some ⟨Wb, 0, none⟩) 1 [(s.una, s.next)] (y1, y2) HWT.out (Nat.le_refl _)).mono ?_
      rintro e v61 ⟨vr, rfl, hO, hb⟩
      rw [show remL [(s.una, s.next)] (y1, y2) = LA by unfold remL; rw [if_pos (takesB_iff.2 ⟨canonB_one.2 ⟨hu0, hlt, by dsimp only; omega⟩, by dsimp only; omega, by dsimp only; omega, by dsimp only; omega⟩), HAW.out.2, hmx, if_pos (by omega)]] at hO
      obtain ⟨ra, rc, rfl, hsp, -, -⟩ := hO.at HLA.out
      have HR := Lib.hid hsp
      clear hO hsp
      replace HS := Lib.hid (HS.out.below hb)
      replace HB := Lib.hid (HB.out.trans (hb.mono HB.out.size))
      replace z0 := cell_bel2 z0 (block_lt_of_cell z0) hb
      replace z1 := cell_bel2 z1 (block_lt_of_cell z1) hb
      clear hb
      clear HWT
      go_wp2_with fail
      refine (sclost_any Bs _ a9 m _ HOA.out HS.out).mono ?_
      rintro e v62 ⟨vl, rfl, hO, hb⟩
      rw [HLL.out] at hO
      obtain ⟨la, lc, rfl, hsp, -, -⟩ := hO.at HLA.out
      have HLS := Lib.hid hsp
      clear hO hsp
      replace HS := Lib.hid (HS.out.below hb)
      replace HB := Lib.hid (HB.out.trans (hb.mono HB.out.size))
      replace z0 := cell_bel2 z0 (block_lt_of_cell z0) hb
      replace z1 := cell_bel2 z1 (block_lt_of_cell z1) hb
      replace HR := Lib.hid ((HR.out.below hb).mono hb.size)
      clear hb
      go_wp2_with fail
      refine (rsame_any v62 v62.heap.size la ra lc rc LA LA HLS.out HR.out (Nat.le_refl _)).mono ?_
      rintro e v63 ⟨rfl, hb⟩
      rw [decide_eq_true (show LA = LA from rfl)]
      replace HB := Lib.hid (HB.out.trans (hb.mono HB.out.size))
      clear hb
      go_wp2_with fail
      go_ret
      exact ⟨rfl, HB.out⟩
end Go.Proofs.Ytncjeleabpodaaa
