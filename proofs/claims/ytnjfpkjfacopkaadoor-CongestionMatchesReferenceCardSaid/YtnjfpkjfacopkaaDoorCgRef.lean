/- CongestionMatchesReference: its walk. -/
import Derived.Test.YtnjfpkjfacopkaaDoorCgBnd
namespace Go.Proofs.YtnjfpkjfacopkaaDoor
open Go.RowKit
/-- The reference's state after i calls. -/
def rrunC (m : Int) (cs : Nat → Cl) : Nat → Cg
  | 0 => cg0 m
  | i + 1 => (rrunC m cs i).rcall (cs i).kind (cs i).n (cs i).to
theorem rrunC_cut (m : Int) (cs : Nat → Cl) : ∀ k, (rrunC m cs k).cut = runC m cs k
  | 0 => rfl
  | k + 1 => by
    show ((rrunC m cs k).rcall (cs k).kind (cs k).n (cs k).to).cut = (runC m cs k).call (cs k).kind (cs k).n (cs k).to
    rw [Cg.cut_call, rrunC_cut m cs k]
theorem told_as (D : Nat) (c d : Cg) (k n to : Int) (hk : In64 k) (hn : In64 n) (hok : c.Ok) (hcd : d.cut = c) (w : World) (h : Rcg D d w) :
    Calls Tryd.prog 20 #[.pointer (some ⟨D, 0, none⟩), .agg #[.int .i64 k, .int .i64 n, .int .i64 to]] w fun e w' => e = .returned (.bool (c.res k)) ∧ Rcg D (d.rcall k n to) w' ∧ Chg D w w' := by
  subst hcd
  exact told_any D d k n to hk hn hok w h
/-- A region's walk under a stronger condition. -/
theorem wpAnyH_switch {P : Program} {md : Region.Mode} {ops : Array Oper} {Q : Exit → Act → World → Prop} {S S' : World → Prop} (h : ∀ w, S' w → S w) :
    ∀ (fuel : Nat) (listed : Array Bool) (a : Act) (w : World), wpAnyH P md ops Q S' fuel listed a w → wpAnyH P md ops Q S fuel listed a w
  | 0, _, _, _, hh => hh
  | _ + 1, _, _, _, hh => ⟨hh.1, fun i hi => wpOp_mono (fun _ _ ⟨hs, hw⟩ => ⟨h _ hs, wpAnyH_switch h _ _ _ _ hw⟩) (hh.2 i hi)⟩
theorem ErrS.drew {a : Addr} {w : World} (h : ErrS a w) : ErrS a w.drew := h
set_option maxRecDepth 100000 in
set_option maxHeartbeats 8000000 in
theorem walk_CongestionMatchesReference (w : World) (m : Int) (wm : (Lit.int .i64 m).wf = true) (a : Option Addr) (len cap : Nat) (cs : Nat → Cl) (hcs : IsCalls w a len cs) (hL : ∃ a, ErrS a w) :
    Calls Tryd.prog 5 #[.int .i64 m, .slice a len cap] w fun r w' => r = .returned (.bool true) ∧ Below w.heap.size w w' := by
  obtain ⟨ea, he⟩ := hL
  obtain ⟨m1, m2⟩ := bounds_i64 wm
  have hmax := hcs.1
  unfold maxLen at hmax
  have hoks : ∀ i, i < len → (cs i).Okay := by
    intro i hi
    obtain ⟨b, off, _, _, hc⟩ := hcs.2 (by omega)
    exact (hc i hi).2.2.2
  have HCS := Lib.hid hcs
  have HG := Lib.hid he.2
  have HOK := Lib.hid hoks
  clear hcs hoks wm
  go_enter Tryd.func5, Tryd.ntmps5
  go_wp2_with fail
  refine (sane_any ea _ he).mono ?_
  rintro e w1 ⟨rfl, hB⟩
  replace he := he.below hB HG.out
  by_cases hm : m < 28 ∨ 1024 < m
  · have HM := Lib.hid hm
    clear hm
    go_wp2_with fail
    refine (new_bad m ea _ he HM.out).mono ?_
    rintro e w2 ⟨rfl, hb⟩
    replace hB := below_val hB hB.size hb
    go_wp2_with fail
    refine (rnew_bad m _ HM.out).mono ?_
    rintro e w3 ⟨rfl, rfl⟩
    go_wp2_with fail
    go_ret
    exact ⟨rfl, hB⟩
  have s1 : 28 ≤ m := by omega
  have s2 : m ≤ 1024 := by omega
  clear hm
  have HF := Lib.hid (runC_ok s1 s2 cs len HOK.out)
  have HC := Lib.hid (rrunC_cut m cs)
  go_wp2_with fail
  refine (new_good m ea _ he s1 s2).mono ?_
  rintro e w3 ⟨rfl, h, hb⟩
  have hN : w.heap.size ≤ w1.heap.size := hB.size
  have hBg : 0 < w1.heap.size := Nat.lt_of_lt_of_le HG.out hN
  replace he := he.below hb hBg
  replace hB := below_val hB hB.size hb
  have HNE := Lib.hid (show 0 ≠ w1.heap.size by omega)
  clear hb hBg
  generalize w1.heap.size = B at *
  go_wp2_with fail
  refine (rnew_good m _ s1 s2).mono ?_
  rintro e w4 ⟨rfl, hr, hb⟩
  have hNr : w.heap.size ≤ w3.heap.size := hB.size
  have hBg : 0 < w3.heap.size := Nat.lt_of_lt_of_le HG.out hNr
  have hne : B ≠ w3.heap.size := by have := h.lt; omega
  replace he := he.below hb hBg
  replace hB := below_val hB hB.size hb
  replace h := h.below hb
  have HNR := Lib.hid (show 0 ≠ w3.heap.size by omega)
  clear hb hBg
  generalize w3.heap.size = D at *
  go_wp2_with fail
  go_loopw [10] (fun i wr => ∃ k : Nat, k ≤ len ∧ k ≤ 40 ∧ i = .int .i64 k ∧ Cng B (runC m cs k) wr ∧ Rcg D (rrunC m cs k) wr ∧ ErrS ea wr ∧ Below w.heap.size w wr) (fun i _ => 40 - (intOf i).toNat)
  case atStart => exact ⟨0, Nat.zero_le _, by omega, rfl, h, hr, he, hB⟩
  case round =>
    obtain ⟨k, hk1, hk2, rfl, hk, hrk, hek, hBk⟩ := hrel
    clear h hr he hB
    by_cases hlt : k < len
    · by_cases hl1 : k < 40
      · have ok := HF.out k (by omega)
        have ok1 := HF.out (k + 1) (by omega)
        have HA := Lib.hid (show runC m cs (k + 1) = (runC m cs k).call (cs k).kind (cs k).n (cs k).to from rfl)
        have HR := Lib.hid (show rrunC m cs (k + 1) = (rrunC m cs k).rcall (cs k).kind (cs k).n (cs k).to from rfl)
        have HC0 := Lib.hid (HC.out k)
        have HC1 := Lib.hid (HC.out (k + 1))
        generalize runC m cs k = c at *
        generalize rrunC m cs k = d at *
        obtain ⟨b, off, rfl, hbs, hc⟩ := HCS.out.2 (by omega)
        obtain ⟨d0, d1, d2, d3, d4, d5⟩ := hc k hlt
        clear hc
        have g0 : wr.cell? ⟨b, off + k * 3, none⟩ = some (.int .i64 (cs k).kind) := (hBk.cell (p := ⟨b, _, none⟩) hbs).trans d0
        have g1 : wr.cell? ⟨b, off + k * 3 + 1, none⟩ = some (.int .i64 (cs k).n) := (hBk.cell (p := ⟨b, _, none⟩) hbs).trans d1
        have g2 : wr.cell? ⟨b, off + k * 3 + 2, none⟩ = some (.int .i64 (cs k).to) := (hBk.cell (p := ⟨b, _, none⟩) hbs).trans d2
        have f1 : (k : Int) < (len : Int) := by omega
        have f2 : (k : Int) < 40 := by omega
        go_wp2_with fail
        have HT1 := Lib.hid (fun (W : World) (h : Rcg D d W) => told_as D c d (cs k).kind (cs k).n (cs k).to d3 d4 ok HC0.out W h)
        generalize hcN : runC m cs (k + 1) = cN at *
        have HcN := Lib.hid hcN
        clear hcN
        generalize hdN : rrunC m cs (k + 1) = dN at *
        have HdN := Lib.hid hdN
        clear hdN
        have HW := Lib.hid (show dN.win = cN.win by rw [← HC1.out]; rfl)
        have HO := Lib.hid (show dN.on = cN.on by rw [← HC1.out]; rfl)
        refine wp_region_held_drew (S := (fun w' => w'.cell? ⟨b, off + k * 3, none⟩ = some (.int .i64 (cs k).kind) ∧ w'.cell? ⟨b, off + k * 3 + 1, none⟩ = some (.int .i64 (cs k).n) ∧ w'.cell? ⟨b, off + k * 3 + 2, none⟩ = some (.int .i64 (cs k).to))) (by kernel_rfl) ⟨g0, g1, g2⟩ (fun hHeld => ?_)
        refine wpAnyH_take (i := 0) (v := ?_) (by simp only [List.getElem?_toArray, List.getElem?_cons_zero]; rfl) (by kernel_rfl) (by kernel_rfl) (by kernel_rfl) (by exact fun _ _ _ h => h) (Or.inl ⟨by rfl, ?_⟩) (by assumption) ?_
        rotate_left 1
        · intro w hSw; (try dsimp only at hSw); go_simp; (try with_reducible rfl)
        (try simp only [Act.put, List.setIfInBounds_toArray, List.set_cons_zero, List.set_cons_succ])
        refine wpAnyH_take (i := 1) (v := ?_) (by simp only [List.getElem?_toArray, List.getElem?_cons_succ, List.getElem?_cons_zero]; rfl) (by kernel_rfl) (by kernel_rfl) (by kernel_rfl) (by exact fun _ _ _ h => h) (Or.inl ⟨by rfl, ?_⟩) (by assumption) ?_
        rotate_left 1
        · intro w hSw; (try dsimp only at hSw); go_simp; (try with_reducible rfl)
        (try simp only [Act.put, List.setIfInBounds_toArray, List.set_cons_zero, List.set_cons_succ])
        refine wpAnyH_take (i := 2) (v := ?_) (by simp only [List.getElem?_toArray, List.getElem?_cons_succ, List.getElem?_cons_zero]; rfl) (by kernel_rfl) (by kernel_rfl) (by kernel_rfl) (by exact fun _ _ _ h => h) (Or.inl ⟨by rfl, ?_⟩) (by assumption) ?_
        rotate_left 1
        · intro w hSw; (try dsimp only at hSw); go_simp; (try with_reducible rfl)
        (try simp only [Act.put, List.setIfInBounds_toArray, List.set_cons_zero, List.set_cons_succ])
        refine wpAnyH_take (i := 3) (v := ?_) (by simp only [List.getElem?_toArray, List.getElem?_cons_succ, List.getElem?_cons_zero]; rfl) (by kernel_rfl) (by kernel_rfl) (by kernel_rfl) (by exact fun _ _ _ h => h) (Or.inl ⟨by rfl, ?_⟩) (by assumption) ?_
        rotate_left 1
        · intro w hSw; (try dsimp only at hSw); go_simp; (try with_reducible rfl)
        (try simp only [Act.put, List.setIfInBounds_toArray, List.set_cons_zero, List.set_cons_succ])
        refine wpAnyH_take (i := 4) (v := ?_) (by simp only [List.getElem?_toArray, List.getElem?_cons_succ, List.getElem?_cons_zero]; rfl) (by kernel_rfl) (by kernel_rfl) (by kernel_rfl) (by exact fun _ _ _ h => h) (Or.inl ⟨by rfl, ?_⟩) (by assumption) ?_
        rotate_left 1
        · intro w hSw; (try dsimp only at hSw); go_simp; (try with_reducible rfl)
        (try simp only [Act.put, List.setIfInBounds_toArray, List.set_cons_zero, List.set_cons_succ])
        refine wpAnyH_take (i := 6) (v := ?_) (by simp only [List.getElem?_toArray, List.getElem?_cons_succ, List.getElem?_cons_zero]; rfl) (by kernel_rfl) (by kernel_rfl) (by kernel_rfl) (by exact fun _ _ _ h => h) (Or.inl ⟨by rfl, ?_⟩) (by assumption) ?_
        rotate_left 1
        · intro w hSw; (try dsimp only at hSw); go_simp; (try with_reducible rfl)
        (try simp only [Act.put, List.setIfInBounds_toArray, List.set_cons_zero, List.set_cons_succ])
        refine wpAnyH_take (i := 7) (v := ?_) (by simp only [List.getElem?_toArray, List.getElem?_cons_succ, List.getElem?_cons_zero]; rfl) (by kernel_rfl) (by kernel_rfl) (by kernel_rfl) (by exact fun _ _ _ h => h) (Or.inl ⟨by rfl, ?_⟩) (by assumption) ?_
        rotate_left 1
        · intro w hSw; (try dsimp only at hSw); go_simp; (try with_reducible rfl)
        (try simp only [Act.put, List.setIfInBounds_toArray, List.set_cons_zero, List.set_cons_succ])
        refine wpAnyH_take (i := 8) (v := ?_) (by simp only [List.getElem?_toArray, List.getElem?_cons_succ, List.getElem?_cons_zero]; rfl) (by kernel_rfl) (by kernel_rfl) (by kernel_rfl) (by exact fun _ _ _ h => h) (Or.inl ⟨by rfl, ?_⟩) (by assumption) ?_
        rotate_left 1
        · intro w hSw; (try dsimp only at hSw); go_simp; (try with_reducible rfl)
        (try simp only [Act.put, List.setIfInBounds_toArray, List.set_cons_zero, List.set_cons_succ])
        refine wpAnyH_take (i := 9) (v := ?_) (by simp only [List.getElem?_toArray, List.getElem?_cons_succ, List.getElem?_cons_zero]; rfl) (by kernel_rfl) (by kernel_rfl) (by kernel_rfl) (by exact fun _ _ _ h => h) (Or.inl ⟨by rfl, ?_⟩) (by assumption) ?_
        rotate_left 1
        · intro w hSw; (try dsimp only at hSw); go_simp; (try with_reducible rfl)
        (try simp only [Act.put, List.setIfInBounds_toArray, List.set_cons_zero, List.set_cons_succ])
        refine wpAnyH_take (i := 10) (v := ?_) (by simp only [List.getElem?_toArray, List.getElem?_cons_succ, List.getElem?_cons_zero]; rfl) (by kernel_rfl) (by kernel_rfl) (by kernel_rfl) (by exact fun _ _ _ h => h) (Or.inl ⟨by rfl, ?_⟩) (by assumption) ?_
        rotate_left 1
        · intro w hSw; (try dsimp only at hSw); go_simp; (try with_reducible rfl)
        (try simp only [Act.put, List.setIfInBounds_toArray, List.set_cons_zero, List.set_cons_succ])
        refine wpAnyH_ready (rs := [5]) (by kernel_rfl) (by simp) ?_
        refine AllReadyH.cons (by simp only [List.getElem?_toArray, List.getElem?_cons_succ, List.getElem?_cons_zero]; rfl) (fun K hK => ?_) AllReadyH.nil
        go_simp
        refine (done_any B c (cs k).kind (cs k).n (cs k).to d3 d4 ok ea _ (by exact hek) (by exact hk)).mono ?_
        rintro e w4 ⟨rfl, hT, hc⟩
        rw [← HA.out] at hT
        have hB4 := below_chg hBk.drew hN hk.lt hc
        have he4 := hek.drew.chg hc HNE.out
        have hr4 := hrk.drew.other hc hne.symm
        have q0 : w4.cell? ⟨b, off + k * 3 , none⟩ = some (.int .i64 (cs k).kind) := (hB4.cell (p := ⟨b, _, none⟩) hbs).trans d0
        have q1 : w4.cell? ⟨b, off + k * 3 + 1, none⟩ = some (.int .i64 (cs k).n) := (hB4.cell (p := ⟨b, _, none⟩) hbs).trans d1
        have q2 : w4.cell? ⟨b, off + k * 3 + 2, none⟩ = some (.int .i64 (cs k).to) := (hB4.cell (p := ⟨b, _, none⟩) hbs).trans d2
        clear hc
        go_simp
        refine hK.out _ _ ⟨q0, q1, q2⟩ (fun hHeld => ?_)
        clear hK K
        (try simp only [Act.put, List.setIfInBounds_toArray, List.set_cons_zero, List.set_cons_succ])
        refine wpAnyH_ready (rs := [11]) (by kernel_rfl) (by simp) ?_
        refine AllReadyH.cons (by simp only [List.getElem?_toArray, List.getElem?_cons_succ, List.getElem?_cons_zero]; rfl) (fun K hK => ?_) AllReadyH.nil
        go_simp
        refine (HT1.out _ hr4).mono ?_
        rintro e w5 ⟨rfl, hU, hc2⟩
        rw [← HR.out] at hU
        have hT5 := hT.other hc2 hne
        have hB5 := below_chg hB4 hNr hr4.lt hc2
        have he5 := he4.chg hc2 HNR.out
        have z0 : w5.cell? ⟨b, off + k * 3 , none⟩ = some (.int .i64 (cs k).kind) := (hB5.cell (p := ⟨b, _, none⟩) hbs).trans d0
        have z1 : w5.cell? ⟨b, off + k * 3 + 1, none⟩ = some (.int .i64 (cs k).n) := (hB5.cell (p := ⟨b, _, none⟩) hbs).trans d1
        have z2 : w5.cell? ⟨b, off + k * 3 + 2, none⟩ = some (.int .i64 (cs k).to) := (hB5.cell (p := ⟨b, _, none⟩) hbs).trans d2
        have y1 := hU.cells.2.1
        have y3 := hU.cells.2.2.2.1
        rw [HW.out] at y1
        rw [HO.out] at y3
        clear hc2
        go_simp
        refine hK.out _ _ ⟨z0, z1, z2⟩ (fun hHeld => ?_)
        clear hK K
        (try simp only [Act.put, List.setIfInBounds_toArray, List.set_cons_zero, List.set_cons_succ])
        clear hHeld
        refine wpAnyH_switch (S' := fun w' => w' = w5) (by rintro _ rfl; exact ⟨z0, z1, z2⟩) _ _ _ _ ?_
        refine wpAnyH_take (i := 12) (v := ?_) (by simp only [List.getElem?_toArray, List.getElem?_cons_succ, List.getElem?_cons_zero]; rfl) (by kernel_rfl) (by kernel_rfl) (by kernel_rfl) (by exact fun _ _ _ h => h) (Or.inl ⟨by rfl, ?_⟩) rfl ?_
        rotate_left 1
        · intro w hSw; rw [show w = w5 from hSw]; go_simp; (try with_reducible rfl)
        (try simp only [Act.put, List.setIfInBounds_toArray, List.set_cons_zero, List.set_cons_succ])
        refine wpAnyH_take (i := 13) (v := ?_) (by simp only [List.getElem?_toArray, List.getElem?_cons_succ, List.getElem?_cons_zero]; rfl) (by kernel_rfl) (by kernel_rfl) (by kernel_rfl) (by exact fun _ _ _ h => h) (Or.inl ⟨by rfl, ?_⟩) rfl ?_
        rotate_left 1
        · intro w hSw; rw [show w = w5 from hSw]; go_simp; (try with_reducible rfl)
        (try simp only [Act.put, List.setIfInBounds_toArray, List.set_cons_zero, List.set_cons_succ])
        refine wpAnyH_take (i := 14) (v := ?_) (by simp only [List.getElem?_toArray, List.getElem?_cons_succ, List.getElem?_cons_zero]; rfl) (by kernel_rfl) (by kernel_rfl) (by kernel_rfl) (by exact fun _ _ _ h => h) (Or.inl ⟨by rfl, ?_⟩) rfl ?_
        rotate_left 1
        · intro w hSw; rw [show w = w5 from hSw]; go_simp; (try with_reducible rfl)
        (try simp only [Act.put, List.setIfInBounds_toArray, List.set_cons_zero, List.set_cons_succ])
        refine wpAnyH_take (i := 16) (v := ?_) (by simp only [List.getElem?_toArray, List.getElem?_cons_succ, List.getElem?_cons_zero]; rfl) (by kernel_rfl) (by kernel_rfl) (by kernel_rfl) (by exact fun _ _ _ h => h) (Or.inl ⟨by rfl, ?_⟩) rfl ?_
        rotate_left 1
        · intro w hSw; rw [show w = w5 from hSw]; go_simp; (try with_reducible rfl)
        (try simp only [Act.put, List.setIfInBounds_toArray, List.set_cons_zero, List.set_cons_succ])
        refine wpAnyH_take (i := 17) (v := ?_) (by simp only [List.getElem?_toArray, List.getElem?_cons_succ, List.getElem?_cons_zero]; rfl) (by kernel_rfl) (by kernel_rfl) (by kernel_rfl) (by exact fun _ _ _ h => h) (Or.inl ⟨by rfl, ?_⟩) rfl ?_
        rotate_left 1
        · intro w hSw; rw [show w = w5 from hSw]; go_simp; (try with_reducible rfl)
        (try simp only [Act.put, List.setIfInBounds_toArray, List.set_cons_zero, List.set_cons_succ])
        refine wpAnyH_take (i := 18) (v := ?_) (by simp only [List.getElem?_toArray, List.getElem?_cons_succ, List.getElem?_cons_zero]; rfl) (by kernel_rfl) (by kernel_rfl) (by kernel_rfl) (by exact fun _ _ _ h => h) (Or.inl ⟨by rfl, ?_⟩) rfl ?_
        rotate_left 1
        · intro w hSw; rw [show w = w5 from hSw]; go_simp; (try with_reducible rfl)
        (try simp only [Act.put, List.setIfInBounds_toArray, List.set_cons_zero, List.set_cons_succ])
        refine wpAnyH_take (i := 19) (v := ?_) (by simp only [List.getElem?_toArray, List.getElem?_cons_succ, List.getElem?_cons_zero]; rfl) (by kernel_rfl) (by kernel_rfl) (by kernel_rfl) (by exact fun _ _ _ h => h) (Or.inl ⟨by rfl, ?_⟩) rfl ?_
        rotate_left 1
        · intro w hSw; rw [show w = w5 from hSw]; go_simp; (try with_reducible rfl)
        (try simp only [Act.put, List.setIfInBounds_toArray, List.set_cons_zero, List.set_cons_succ])
        refine wpAnyH_ready (rs := [15]) (by kernel_rfl) (by simp) ?_
        refine AllReadyH.cons (by simp only [List.getElem?_toArray, List.getElem?_cons_succ, List.getElem?_cons_zero]; rfl) (fun K hK => ?_) AllReadyH.nil
        go_simp
        refine (window_any B _ _ hT5).mono ?_
        rintro e w6 ⟨rfl, rfl⟩
        go_simp
        refine hK.out _ _ rfl (fun hHeld => ?_)
        clear hK K
        (try simp only [Act.put, List.setIfInBounds_toArray, List.set_cons_zero, List.set_cons_succ])
        refine wpAnyH_take (i := 20) (v := ?_) (by simp only [List.getElem?_toArray, List.getElem?_cons_succ, List.getElem?_cons_zero]; rfl) (by kernel_rfl) (by kernel_rfl) (by kernel_rfl) (by exact fun _ _ _ h => h) (Or.inl ⟨by rfl, ?_⟩) rfl ?_
        rotate_left 1
        · intro w hSw; rw [show w = w5 from hSw]; go_simp; (try with_reducible rfl)
        (try simp only [Act.put, List.setIfInBounds_toArray, List.set_cons_zero, List.set_cons_succ])
        refine wpAnyH_take (i := 21) (v := ?_) (by simp only [List.getElem?_toArray, List.getElem?_cons_succ, List.getElem?_cons_zero]; rfl) (by kernel_rfl) (by kernel_rfl) (by kernel_rfl) (by exact fun _ _ _ h => h) (Or.inl ⟨by rfl, ?_⟩) rfl ?_
        rotate_left 1
        · intro w hSw; rw [show w = w5 from hSw]; go_simp; (try with_reducible rfl)
        (try simp only [Act.put, List.setIfInBounds_toArray, List.set_cons_zero, List.set_cons_succ])
        refine wpAnyH_take (i := 22) (v := ?_) (by simp only [List.getElem?_toArray, List.getElem?_cons_succ, List.getElem?_cons_zero]; rfl) (by kernel_rfl) (by kernel_rfl) (by kernel_rfl) (by exact fun _ _ _ h => h) (Or.inl ⟨by rfl, ?_⟩) rfl ?_
        rotate_left 1
        · intro w hSw; rw [show w = w5 from hSw]; go_simp; (try with_reducible rfl)
        (try simp only [Act.put, List.setIfInBounds_toArray, List.set_cons_zero, List.set_cons_succ])
        refine wpAnyH_take (i := 23) (v := ?_) (by simp only [List.getElem?_toArray, List.getElem?_cons_succ, List.getElem?_cons_zero]; rfl) (by kernel_rfl) (by kernel_rfl) (by kernel_rfl) (by exact fun _ _ _ h => h) (Or.inl ⟨by rfl, ?_⟩) rfl ?_
        rotate_left 1
        · intro w hSw; rw [show w = w5 from hSw]; go_simp; (try with_reducible rfl)
        (try simp only [Act.put, List.setIfInBounds_toArray, List.set_cons_zero, List.set_cons_succ])
        refine wpAnyH_take (i := 25) (v := ?_) (by simp only [List.getElem?_toArray, List.getElem?_cons_succ, List.getElem?_cons_zero]; rfl) (by kernel_rfl) (by kernel_rfl) (by kernel_rfl) (by exact fun _ _ _ h => h) (Or.inl ⟨by rfl, ?_⟩) rfl ?_
        rotate_left 1
        · intro w hSw; rw [show w = w5 from hSw]; go_simp; (try with_reducible rfl)
        (try simp only [Act.put, List.setIfInBounds_toArray, List.set_cons_zero, List.set_cons_succ])
        refine wpAnyH_take (i := 26) (v := ?_) (by simp only [List.getElem?_toArray, List.getElem?_cons_succ, List.getElem?_cons_zero]; rfl) (by kernel_rfl) (by kernel_rfl) (by kernel_rfl) (by exact fun _ _ _ h => h) (Or.inl ⟨by rfl, ?_⟩) rfl ?_
        rotate_left 1
        · intro w hSw; rw [show w = w5 from hSw]; go_simp; (try with_reducible rfl)
        (try simp only [Act.put, List.setIfInBounds_toArray, List.set_cons_zero, List.set_cons_succ])
        refine wpAnyH_take (i := 27) (v := ?_) (by simp only [List.getElem?_toArray, List.getElem?_cons_succ, List.getElem?_cons_zero]; rfl) (by kernel_rfl) (by kernel_rfl) (by kernel_rfl) (by exact fun _ _ _ h => h) (Or.inl ⟨by rfl, ?_⟩) rfl ?_
        rotate_left 1
        · intro w hSw; rw [show w = w5 from hSw]; go_simp; (try with_reducible rfl)
        (try simp only [Act.put, List.setIfInBounds_toArray, List.set_cons_zero, List.set_cons_succ])
        refine wpAnyH_take (i := 28) (v := ?_) (by simp only [List.getElem?_toArray, List.getElem?_cons_succ, List.getElem?_cons_zero]; rfl) (by kernel_rfl) (by kernel_rfl) (by kernel_rfl) (by exact fun _ _ _ h => h) (Or.inl ⟨by rfl, ?_⟩) rfl ?_
        rotate_left 1
        · intro w hSw; rw [show w = w5 from hSw]; go_simp; (try with_reducible rfl)
        (try simp only [Act.put, List.setIfInBounds_toArray, List.set_cons_zero, List.set_cons_succ])
        refine wpAnyH_ready (rs := [24]) (by kernel_rfl) (by simp) ?_
        refine AllReadyH.cons (by simp only [List.getElem?_toArray, List.getElem?_cons_succ, List.getElem?_cons_zero]; rfl) (fun K hK => ?_) AllReadyH.nil
        go_simp
        refine (recovering_any B _ ok1 _ hT5).mono ?_
        rintro e w6 ⟨rfl, rfl⟩
        go_simp
        refine hK.out _ _ rfl (fun hHeld => ?_)
        clear hK K
        (try simp only [Act.put, List.setIfInBounds_toArray, List.set_cons_zero, List.set_cons_succ])
        refine wpAnyH_take (i := 29) (v := ?_) (by simp only [List.getElem?_toArray, List.getElem?_cons_succ, List.getElem?_cons_zero]; rfl) (by kernel_rfl) (by kernel_rfl) (by kernel_rfl) (by exact fun _ _ _ h => h) (Or.inl ⟨by rfl, ?_⟩) rfl ?_
        rotate_left 1
        · intro w hSw; rw [show w = w5 from hSw]; go_simp; (try with_reducible rfl)
        (try simp only [Act.put, List.setIfInBounds_toArray, List.set_cons_zero, List.set_cons_succ])
        refine wpAnyH_take (i := 30) (v := ?_) (by simp only [List.getElem?_toArray, List.getElem?_cons_succ, List.getElem?_cons_zero]; rfl) (by kernel_rfl) (by kernel_rfl) (by kernel_rfl) (by exact fun _ _ _ h => h) (Or.inl ⟨by rfl, ?_⟩) rfl ?_
        rotate_left 1
        · intro w hSw; rw [show w = w5 from hSw]; go_simp; (try with_reducible rfl)
        (try simp only [Act.put, List.setIfInBounds_toArray, List.set_cons_zero, List.set_cons_succ])
        refine wpAnyH_done (by kernel_rfl) ?_ _
        go_wp2_with fail
        go_roundw
        case rel => exact ⟨k + 1, by omega, by omega, by go_num, by rw [HcN.out]; exact hT5, by rw [HdN.out]; exact hU, he5, hB5⟩
        case measure => simp [intOf]; omega
      · obtain rfl : k = 40 := by omega
        go_wp2_with fail
        go_ret
        exact ⟨rfl, hBk⟩
    · obtain rfl : k = len := by omega
      go_wp2_with fail
      go_ret
      exact ⟨rfl, hBk⟩
end Go.Proofs.YtnjfpkjfacopkaaDoor
