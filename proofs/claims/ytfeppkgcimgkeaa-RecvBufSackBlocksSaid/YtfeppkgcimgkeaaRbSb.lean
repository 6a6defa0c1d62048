/- RecvBufSackBlocks: the law's walk. -/
import Derived.Test.YtfeppkgcimgkeaaRbSane
import Derived.Test.YtfeppkgcimgkeaaRbSbP
import Derived.Test.YtfeppkgcimgkeaaRgCont
import Derived.Test.YtfeppkgcimgkeaaRbCalls
namespace Go.Proofs.Ytfeppkgcimgkeaa
open Go.RowKit Go.Shelf
theorem OwnSp.chg2 {w w' : World} {base B R : Nat} {v : Value} {L : List Sp} (h : OwnSp w base v L) (hc : Chg2 B R w w') (hB : B < base) (hR : R < base) : OwnSp w' base v L := by
  refine ⟨h.1, ?_⟩
  rcases h.2 with g | ⟨g, cap, cur, hv, hbg, hg, r⟩
  · exact .inl g
  · exact .inr ⟨g, cap, cur, hv, hbg, (hc.block g (Array.getElem?_eq_some_iff.1 hg).1 (by omega) (by omega)).trans hg, r⟩
theorem OwnSp.belowW {w w' : World} {base : Nat} {v : Value} {L : List Sp} (h : OwnSp w base v L) (hb : Below w.heap.size w w') : OwnSp w' base v L := by
  refine ⟨h.1, ?_⟩
  rcases h.2 with g | ⟨g, cap, cur, hv, hbg, hg, r⟩
  · exact .inl g
  · exact .inr ⟨g, cap, cur, hv, hbg, (hb.block g (Array.getElem?_eq_some_iff.1 hg).1).trans hg, r⟩
theorem canon_len {e : Int} {L : List Sp} (h : canonF e L = true) : (L.length : Int) ≤ countF L := by
  induction L generalizing e with
  | nil => exact Int.le_refl _
  | cons x t ih =>
    rw [canonF_cons] at h
    have := ih h.2
    show ((t.length + 1 : Nat) : Int) ≤ x.2 - x.1 + countF t
    omega
theorem canon_cnt {e n : Int} {L : List Sp} (h : canonF e L = true) (hn : ∀ x ∈ L, x.2 ≤ n) (he : e ≤ n) : countF L ≤ n - e := by
  induction L generalizing e with
  | nil => show (0 : Int) ≤ _; omega
  | cons x t ih =>
    rw [canonF_cons] at h
    have h1 := hn x List.mem_cons_self
    have := ih h.2 (fun y hy => hn y (List.mem_cons_of_mem _ hy)) h1
    show x.2 - x.1 + countF t ≤ _
    omega
theorem allL_bd {b : Bx} (ok : b.Ok) (hrd : b.rd = 0) : 0 ≤ countF (allL b) ∧ countF (allL b) ≤ b.ring.length + 1 := by
  have hc := allL_canon ok
  refine ⟨(countF_nonneg hc).1, ?_⟩
  have := canon_cnt (n := b.ring.length) hc (fun x hx => ?_) (by omega)
  · omega
  · have hv := canonF_el hc hx
    have := (allL_mem ok (x.2 - 1)).1 ⟨x, hx, by omega⟩
    have := Bx.has_lt ok this
    rw [hrd] at this
    omega
/-- What the outer loop keeps. -/
structure SbL (n B R lb : Nat) (w : World) (va : Value) (sum : Int) (wr : World) : Prop where
  ex : ∃ b, b.Ok ∧ b.rd = 0 ∧ b.ring.length = n ∧ BoxAt B R lb b wr ∧ OwnSp wr lb va (allL b) ∧ sum = countF (allL b)
  below : Below w.heap.size w wr
  lbs : lb ≤ wr.heap.size
  apart : w.heap.size ≤ B ∧ w.heap.size ≤ R ∧ B < lb ∧ R < lb
set_option maxRecDepth 100000 in
set_option maxHeartbeats 4000000 in
theorem walk_RecvBufSackBlocks (w : World) (room : Int) (hr0 : (Lit.int .i64 room).wf = true) (a : Option Addr) (len cap : Nat) (cs : Nat → Cl) (hcs : IsCalls w a len cs) :
    Calls Try.prog 8 #[.int .i64 room, .slice a len cap] w fun e w' => e = .returned (.bool true) ∧ Below w.heap.size w w' := by
  have br := bounds_i64 hr0
  clear hr0
  have hlen := hcs.1
  unfold maxLen at hlen
  have HCS := Lib.hid hcs.2
  clear hcs
  obtain ⟨r, hr⟩ : ∃ r, r = pickV room 30 := ⟨_, rfl⟩
  have rb := pickV_bd room 30 (by omega)
  rw [← hr] at rb
  obtain ⟨r1, r2⟩ := rb
  have HR := Lib.hid (show ∀ W, Calls Try.prog 20 #[.int .i64 room, .int .i64 30] W fun rt_ w' => rt_ = .returned (.int .i64 r) ∧ W = w' from fun W => by rw [hr]; exact pick_any room 30 W br.1 br.2 (by omega) (by omega))
  clear hr
  obtain ⟨rn, rfl⟩ := Int.eq_ofNat_of_zero_le r1
  obtain ⟨n, hn⟩ : ∃ n : Nat, (4 : Int) + (rn : Int) = (n : Int) := ⟨4 + rn, by omega⟩
  have hn1 : 4 ≤ n := by omega
  have hn2 : n ≤ 40 := by omega
  have HN := Lib.hid hn
  clear hn br
  go_enter Try.func8, Try.ntmps8
  go_wp2_with fail
  refine (sanity_any _).mono ?_
  rintro e v0 ⟨rfl, hb0⟩
  have HB := Lib.hid hb0
  clear hb0
  go_wp2_with fail
  refine (HR.out _).mono ?_
  rintro e w9 ⟨rfl, rfl⟩
  go_wp2_with fail
  rw [HN.out]
  refine (new_box n (by omega) (by omega) _).mono ?_
  rintro e v1 ⟨B, R, rfl, hbox, hb, hB, hR⟩
  have hsB := HB.out.size
  have hbl := (hbox 0).lt
  have HL := Lib.hid (show SbL n B R v1.heap.size w (.slice none 0 0) 0 v1 from ⟨⟨_, bx0_ok n (by omega) (by omega), rfl, by simp [bx0], hbox _, OwnSp.nil _ _, rfl⟩, HB.out.trans (hb.mono HB.out.size), Nat.le_refl _, by omega⟩)
  obtain ⟨lb, hlb⟩ : ∃ lb, lb = v1.heap.size := ⟨_, rfl⟩
  rw [← hlb] at HL
  clear hbox hb hB hR hsB hlb HB HR hbl
  go_wp2_with fail
  go_loopw [9, 10, 11] (fun av sv iv wr => ∃ (i : Nat) (sum : Int), sv = .int .i64 sum ∧ iv = .int .i64 i ∧ i ≤ 20 ∧ SbL n B R lb w av sum wr) (fun _ _ iv _ => 20 - (intOf iv).toNat)
  case atStart => exact ⟨0, 0, rfl, rfl, by omega, HL.out⟩
  case round =>
    clear HL
    obtain ⟨i, sum, rfl, rfl, hi20, hL⟩ := hrel
    obtain ⟨b, ok, hrd, hln, hbox, hown, hsum⟩ := hL.ex
    have hbd := allL_bd ok hrd
    rw [← hsum, hln] at hbd
    obtain ⟨s1, s2⟩ := hbd
    have hlc := canon_len (allL_canon ok)
    rw [← hsum] at hlc
    obtain ⟨aa, ac, rfl, hasp, hacap, -⟩ := hown.at (by omega)
    have HL := Lib.hid hL
    have HOK := Lib.hid ok
    have HRD := Lib.hid hrd
    have HLN := Lib.hid hln
    have HX := Lib.hid hbox
    have HOW := Lib.hid hown
    have HSU := Lib.hid hsum
    clear hL ok hrd hln hbox hown hsum hasp
    by_cases h1 : i < len
    · by_cases h2 : i < 20
      · obtain ⟨cb, co, rfl, hcl, hca⟩ := HCS.out (by omega)
        have hcell := (hca i h1).below HL.out.below hcl
        generalize cs i = c at hcell
        obtain ⟨kd, of, st, nn⟩ := c
        obtain ⟨-, c1, c2, -, -, hof, hst, -⟩ := hcell
        dsimp only at c1 c2 hof hst
        clear hca
        go_wp2_with fail
        refine (pick_any of ((n : Int) + 4) _ hof.1 hof.2 (by omega) (by omega)).mono ?_
        rintro e w9 ⟨rfl, rfl⟩
        have fb := pickV_bd of ((n : Int) + 4) (by omega)
        generalize pickV of ((n : Int) + 4) = f at fb ⊢
        obtain ⟨fb1, fb2⟩ := fb
        obtain ⟨F, rfl⟩ := Int.eq_ofNat_of_zero_le fb1
        have b1 : 0 ≤ min (st.size : Int) 6 := by omega
        have b2 : min (st.size : Int) 6 ≤ (st.size : Int) := by omega
        go_wp2_with fail
        refine wp_region_held_drew (S := (fun W' : World => W'.cell? ⟨cb, co + i * 4 + 2, none⟩ = some (.string st))) (by kernel_rfl) (c2) (fun hHeld => ?_)
        refine wpAnyH_take (i := 0) (v := ?_) (by simp only [List.getElem?_toArray, List.getElem?_cons_zero]; rfl) (by kernel_rfl) (by kernel_rfl) (by kernel_rfl) (by exact fun _ _ _ h => h) (Or.inl ⟨by rfl, ?_⟩) (by assumption) ?_
        rotate_left 1
        · intro w hSw; (try dsimp only at hSw); go_simp; (try with_reducible rfl)
        (try simp only [Act.put, List.setIfInBounds_toArray, List.set_cons_zero, List.set_cons_succ])
        refine wpAnyH_take (i := 1) (v := ?_) (by simp only [List.getElem?_toArray, List.getElem?_cons_succ, List.getElem?_cons_zero]; rfl) (by kernel_rfl) (by kernel_rfl) (by kernel_rfl) (by exact fun _ _ _ h => h) (Or.inl ⟨by rfl, ?_⟩) (by assumption) ?_
        rotate_left 1
        · intro w hSw; (try dsimp only at hSw); go_simp; (try with_reducible rfl)
        (try simp only [Act.put, List.setIfInBounds_toArray, List.set_cons_zero, List.set_cons_succ])
        refine wpAnyH_take (i := 2) (v := ?_) (by simp only [List.getElem?_toArray, List.getElem?_cons_succ, List.getElem?_cons_zero]; rfl) (by kernel_rfl) (by kernel_rfl) (by kernel_rfl) (by exact fun _ _ _ h => h) (Or.inl ⟨by rfl, ?_⟩) (by assumption) ?_
        rotate_left 1
        · intro w hSw; (try dsimp only at hSw); go_simp; (try with_reducible rfl)
        (try simp only [Act.put, List.setIfInBounds_toArray, List.set_cons_zero, List.set_cons_succ])
        refine wpAnyH_take (i := 3) (v := ?_) (by simp only [List.getElem?_toArray, List.getElem?_cons_succ, List.getElem?_cons_zero]; rfl) (by kernel_rfl) (by kernel_rfl) (by kernel_rfl) (by exact fun _ _ _ h => h) (Or.inl ⟨by rfl, ?_⟩) (by assumption) ?_
        rotate_left 1
        · intro w hSw; (try dsimp only at hSw); go_simp; (try with_reducible rfl)
        (try simp only [Act.put, List.setIfInBounds_toArray, List.set_cons_zero, List.set_cons_succ])
        refine wpAnyH_take (i := 4) (v := ?_) (by simp only [List.getElem?_toArray, List.getElem?_cons_succ, List.getElem?_cons_zero]; rfl) (by kernel_rfl) (by kernel_rfl) (by kernel_rfl) (by exact fun _ _ _ h => h) (Or.inl ⟨by rfl, ?_⟩) (by assumption) ?_
        rotate_left 1
        · intro w hSw; (try dsimp only at hSw); go_simp; (try with_reducible rfl)
        (try simp only [Act.put, List.setIfInBounds_toArray, List.set_cons_zero, List.set_cons_succ])
        refine wpAnyH_take (i := 5) (v := ?_) (by simp only [List.getElem?_toArray, List.getElem?_cons_succ, List.getElem?_cons_zero]; rfl) (by kernel_rfl) (by kernel_rfl) (by kernel_rfl) (by exact fun _ _ _ h => h) (Or.inl ⟨by rfl, ?_⟩) (by assumption) ?_
        rotate_left 1
        · intro w hSw; (try dsimp only at hSw); go_simp; (try with_reducible rfl)
        (try simp only [Act.put, List.setIfInBounds_toArray, List.set_cons_zero, List.set_cons_succ])
        refine wpAnyH_take (i := 6) (v := ?_) (by simp only [List.getElem?_toArray, List.getElem?_cons_succ, List.getElem?_cons_zero]; rfl) (by kernel_rfl) (by kernel_rfl) (by kernel_rfl) (by exact fun _ _ _ h => h) (Or.inl ⟨by rfl, ?_⟩) (by assumption) ?_
        rotate_left 1
        · intro w hSw; (try dsimp only at hSw); go_simp; (try with_reducible rfl)
        (try simp only [Act.put, List.setIfInBounds_toArray, List.set_cons_zero, List.set_cons_succ])
        refine wpAnyH_take (i := 7) (v := ?_) (by simp only [List.getElem?_toArray, List.getElem?_cons_succ, List.getElem?_cons_zero]; rfl) (by kernel_rfl) (by kernel_rfl) (by kernel_rfl) (by exact fun _ _ _ h => h) (Or.inl ⟨by rfl, ?_⟩) (by assumption) ?_
        rotate_left 1
        · intro w hSw; (try dsimp only at hSw); go_simp; (try with_reducible rfl)
        (try simp only [Act.put, List.setIfInBounds_toArray, List.set_cons_zero, List.set_cons_succ])
        refine wpAnyH_take (i := 8) (v := ?_) (by simp only [List.getElem?_toArray, List.getElem?_cons_succ, List.getElem?_cons_zero]; rfl) (by kernel_rfl) (by kernel_rfl) (by kernel_rfl) (by exact fun _ _ _ h => h) (Or.inl ⟨by rfl, ?_⟩) (by assumption) ?_
        rotate_left 1
        · intro w hSw; (try dsimp only at hSw); go_simp; (try with_reducible rfl)
        (try simp only [Act.put, List.setIfInBounds_toArray, List.set_cons_zero, List.set_cons_succ])
        refine wpAnyH_take (i := 9) (v := ?_) (by simp only [List.getElem?_toArray, List.getElem?_cons_succ, List.getElem?_cons_zero]; rfl) (by kernel_rfl) (by kernel_rfl) (by kernel_rfl) (by exact fun _ _ _ h => h) (Or.inl ⟨by rfl, ?_⟩) (by assumption) ?_
        rotate_left 1
        · intro w hSw; (try dsimp only at hSw); go_simp; (try with_reducible rfl)
        (try simp only [Act.put, List.setIfInBounds_toArray, List.set_cons_zero, List.set_cons_succ])
        refine wpAnyH_take (i := 10) (v := ?_) (by simp only [List.getElem?_toArray, List.getElem?_cons_succ, List.getElem?_cons_zero]; rfl) (by kernel_rfl) (by kernel_rfl) (by kernel_rfl) (by exact fun _ _ _ h => h) (Or.inl ⟨by rfl, ?_⟩) (by assumption) ?_
        rotate_left 1
        · intro w hSw; (try dsimp only at hSw); go_simp; (try with_reducible rfl)
        (try simp only [Act.put, List.setIfInBounds_toArray, List.set_cons_zero, List.set_cons_succ])
        refine wpAnyH_take (i := 11) (v := ?_) (by simp only [List.getElem?_toArray, List.getElem?_cons_succ, List.getElem?_cons_zero]; rfl) (by kernel_rfl) (by kernel_rfl) (by kernel_rfl) (by exact fun _ _ _ h => h) (Or.inl ⟨by rfl, ?_⟩) (by assumption) ?_
        rotate_left 1
        · intro w hSw; (try dsimp only at hSw); go_simp; (try with_reducible rfl)
        (try simp only [Act.put, List.setIfInBounds_toArray, List.set_cons_zero, List.set_cons_succ])
        refine wpAnyH_take (i := 12) (v := ?_) (by simp only [List.getElem?_toArray, List.getElem?_cons_succ, List.getElem?_cons_zero]; rfl) (by kernel_rfl) (by kernel_rfl) (by kernel_rfl) (by exact fun _ _ _ h => h) (Or.inl ⟨by rfl, ?_⟩) (by assumption) ?_
        rotate_left 1
        · intro w hSw; (try dsimp only at hSw); go_simp; (try with_reducible rfl)
        (try simp only [Act.put, List.setIfInBounds_toArray, List.set_cons_zero, List.set_cons_succ])
        refine wpAnyH_take (i := 13) (v := ?_) (by simp only [List.getElem?_toArray, List.getElem?_cons_succ, List.getElem?_cons_zero]; rfl) (by kernel_rfl) (by kernel_rfl) (by kernel_rfl) (by exact fun _ _ _ h => h) (Or.inl ⟨by rfl, ?_⟩) (by assumption) ?_
        rotate_left 1
        · intro w hSw; (try dsimp only at hSw); go_simp; (try with_reducible rfl)
        (try simp only [Act.put, List.setIfInBounds_toArray, List.set_cons_zero, List.set_cons_succ])
        refine wpAnyH_done (by kernel_rfl) ?_ _
        obtain ⟨pc, hpc⟩ : ∃ pc : ByteArray, pc = st.extract 0 (min (st.size : Int) 6).toNat := ⟨_, rfl⟩
        rw [← hpc]
        have hps : pc.size ≤ 6 := by rw [hpc, ByteArray.size_extract]; omega
        clear hpc
        go_wp2_with fail
        have HSP := Lib.hid (sack_put HOK.out HRD.out (off := F) pc.data.toList (by omega))
        refine (put_any B R lb b (F : Int) pc _ HX.out.drew HOK.out (by simpa using HL.out.lbs) (by omega)).mono ?_
        rintro e u2 ⟨rfl, hx2, hc2⟩
        rw [show putE (F : Int) = 0 by unfold putE; rw [if_neg (by omega)]]
        obtain ⟨ok2, rd2, ln2, al2, ct2, nw2⟩ := HSP.out
        rw [HLN.out] at ln2 al2 nw2
        rw [show pc.data.toList.length = pc.size by rw [Array.length_toList]; rfl] at al2 ct2 nw2
        generalize b.putN (F : Int) pc.size = pn at ct2 ⊢
        generalize b.put (F : Int) pc.data.toList = b2 at hx2 ok2 rd2 ln2 al2 ct2 nw2
        have hbd2 := allL_bd ok2 rd2
        rw [ln2] at hbd2
        obtain ⟨t1, t2⟩ := hbd2
        rw [← HSU.out] at ct2
        obtain ⟨T, hT⟩ : ∃ T : Nat, T = min (F + pc.size) n := ⟨_, rfl⟩
        have hmin : min ((F : Int) + (pc.size : Int)) (n : Int) = (T : Int) := by omega
        rw [hmin] at al2 nw2
        have HT := Lib.hid hT
        have hTn : T ≤ n := by omega
        clear hT
        have HC2 := Lib.hid hc2
        have HB := Lib.hid (HL.out.below.drew.trans (hc2.below HL.out.apart.1 HL.out.apart.2.1 HL.out.below.size))
        have HOW2 := Lib.hid ((HOW.out.belowW (Below.refl _ wr).drew).chg2 hc2 HL.out.apart.2.2.1 HL.out.apart.2.2.2)
        have HX := Lib.hid hx2
        have HOK2 := Lib.hid ok2
        have HRD2 := Lib.hid rd2
        have HLN2 := Lib.hid ln2
        have HNW := Lib.hid nw2
        have hlb : lb ≤ u2.heap.size := Nat.le_trans HL.out.lbs hc2.size
        have hpn0 : -50 ≤ pn := by omega
        have hpn1 : pn ≤ 50 := by omega
        have HC := Lib.hid ct2
        have hck : ((sum + pn) != countF (allL b2)) = false := by rw [bne_eq_false_iff_eq]; exact ct2.symm
        have HCT := Lib.hid (show countL (allL b2) = countF (allL b2) by unfold countL; rw [if_pos (allL_canon ok2)])
        clear hx2 hc2 ok2 rd2 ln2 nw2 ct2
        by_cases hlt : F < T
        · as_aux_lemma =>
            rw [if_pos (by omega)] at al2
            have HAL := Lib.hid al2
            clear al2
            have hln2 : (allL b2).length ≤ 1099511627776 := by have := canon_len (allL_canon HOK2.out); omega
            obtain ⟨a', c', he, hsp2, -, -⟩ := HOW2.out.at (by omega)
            cases he
            go_wp2_with fail
            refine (add_any _ _ aa ac (allL b) ((F : Int), (T : Int)) hsp2 (Nat.le_refl _) hacap).mono ?_
            rintro e u3 ⟨v, rfl, hv, hb3⟩
            rw [← HAL.out] at hv
            obtain ⟨a2, c2, rfl, hasp2, hac2, -⟩ := hv.at hln2
            replace HX := Lib.hid (HX.out.below hb3)
            replace HB := Lib.hid (HB.out.trans (hb3.mono HB.out.size))
            have HO := Lib.hid (hv.mono hlb)
            have HA := Lib.hid hasp2
            replace hlb := Nat.le_trans hlb hb3.size
            clear hv hb3 hsp2 hasp2 HOW2 hln2
            go_wp2_with fail
            refine (count_any _ _ a2 c2 (allL b2) HA.out (Nat.le_refl _)).mono ?_
            rintro e u3 ⟨rfl, hu3⟩
            rw [HCT.out]
            replace HX := Lib.hid (HX.out.below hu3)
            replace HB := Lib.hid (HB.out.trans (hu3.mono HB.out.size))
            replace HO := Lib.hid (HO.out.belowW hu3)
            replace HA := Lib.hid ((HA.out.below hu3).mono hu3.size)
            replace hlb := Nat.le_trans hlb hu3.size
            clear hu3
            go_wp2_with fail
            refine (blocks_any B R lb b2 _ HX.out HOK2.out).mono ?_
            rintro e u4 ⟨ba, bc, rfl, hrs, hrc, hfr, hu4⟩
            have HX2 := Lib.hid (HX.out.below hu4)
            replace HB := Lib.hid (HB.out.trans (hu4.mono HB.out.size))
            have HO2 := Lib.hid (HO.out.belowW hu4)
            have HA2 := Lib.hid ((HA.out.below hu4).mono hu4.size)
            replace hlb := Nat.le_trans hlb hu4.size
            have HRS := Lib.hid hrs
            clear hrs hu4 HX HO HA
            obtain ⟨W0, hW0⟩ : ∃ W0, W0 = u4 := ⟨_, rfl⟩
            subst hW0
            have HBA : Hid (0 < b2.rep.length → ∃ bb bo, ba = some ⟨bb, bo, none⟩ ∧ bb < W0.heap.size ∧ ∀ W, Below W0.heap.size W0 W → ∀ j (h : j < b2.rep.length), W.cell? ⟨bb, bo + j * 2, none⟩ = some (.int .i64 b2.rep[j].1) ∧ W.cell? ⟨bb, bo + j * 2 + 1, none⟩ = some (.int .i64 b2.rep[j].2)) := by
              refine Lib.hid (fun hp => ?_)
              obtain ⟨bb, bo, he, hbl, hc⟩ := HRS.out.cells hp
              exact ⟨bb, bo, he, hbl, fun W hW j hj => ⟨(hW.cell (p := ⟨bb, _, none⟩) hbl).trans (hc j hj).1, (hW.cell (p := ⟨bb, _, none⟩) hbl).trans (hc j hj).2⟩⟩
            clear hfr HRS
            go_wp2_with fail
            go_loopw [18, 19] (fun pv jv wr => ∃ (j : Nat) (P : List Sp) (ap : Option Addr) (cp : Nat), pv = .slice ap P.length cp ∧ jv = .int .i64 j ∧ j ≤ b2.rep.length ∧ SackI b2 j P ∧ SpAt wr wr.heap.size ap P ∧ P.length ≤ cp ∧ Below W0.heap.size W0 wr) (fun _ jv _ => b2.rep.length - (intOf jv).toNat)
            case atStart => exact ⟨0, [], none, 0, rfl, rfl, Nat.zero_le _, SackI.start _, ⟨by simp, fun h => by simp at h⟩, Nat.le_refl _, Below.refl _ _⟩
            case round =>
              obtain ⟨j, P, ap, cp, rfl, rfl, hj, hP, hPs, hPc, hbW⟩ := hrel
              have HP := Lib.hid hP
              have HPS := Lib.hid hPs
              have HBW := Lib.hid hbW
              have HX3 := Lib.hid (HX2.out.below hbW)
              have HA3 := Lib.hid (((HA2.out.below hbW).mono hbW.size).below (Below.refl _ _).drew)
              have hwsz := hbW.size
              have hPl := hP.len
              have hP3 : P.length ≤ 3 := by have := Bx.rep_length b2; omega
              have HPL := Lib.hid hPl
              clear hP hPs hbW hPl
              by_cases hjl : j < b2.rep.length
              · as_aux_lemma =>
                  have hrk := rep_ok HOK2.out HRD2.out (List.getElem_mem hjl)
                  obtain ⟨bb, bo, rfl, hbbr, hRC⟩ := HBA.out (by omega)
                  obtain ⟨d0, d1⟩ := hRC _ HBW.out j hjl
                  clear hRC
                  have HST := Lib.hid (SackI.step HOK2.out HP.out hjl)
                  have HXE := Lib.hid (show ∃ y, y = b2.rep[j] from ⟨_, rfl⟩)
                  generalize hx : b2.rep[j] = x at hrk d0 d1 HST
                  obtain ⟨x1, x2⟩ := x
                  obtain ⟨k1, k2, k3, k4⟩ := hrk
                  have HHS := Lib.hid k4
                  rw [HLN2.out] at k2
                  dsimp only at d0 d1 k1 k2 k3
                  replace hbbr : bb < wr.heap.size := by omega
                  have hji : (j : Int) < (b2.rep.length : Int) := by omega
                  have hj3 : (j : Int) ≤ 3 := by have := Bx.rep_length b2; omega
                  clear hx HXE k4
                  go_wp2_with fail
                  refine wp_region_held_drew (S := (fun W' : World => W'.cell? ⟨bb, bo + j * 2, none⟩ = some (.int .i64 x1) ∧ W'.cell? ⟨bb, bo + j * 2 + 1, none⟩ = some (.int .i64 x2))) (by kernel_rfl) (⟨d0, d1⟩) (fun hHeld => ?_)
                  refine wpAnyH_take (i := 0) (v := ?_) (by simp only [List.getElem?_toArray, List.getElem?_cons_zero]; rfl) (by kernel_rfl) (by kernel_rfl) (by kernel_rfl) (by exact fun _ _ _ h => h) (Or.inl ⟨by rfl, ?_⟩) (by assumption) ?_
                  rotate_left 1
                  · intro w hSw; (obtain ⟨g0, g1⟩ := hSw); go_simp; (try with_reducible rfl)
                  (try simp only [Act.put, List.setIfInBounds_toArray, List.set_cons_zero, List.set_cons_succ])
                  refine wpAnyH_take (i := 1) (v := ?_) (by simp only [List.getElem?_toArray, List.getElem?_cons_succ, List.getElem?_cons_zero]; rfl) (by kernel_rfl) (by kernel_rfl) (by kernel_rfl) (by exact fun _ _ _ h => h) (Or.inl ⟨by rfl, ?_⟩) (by assumption) ?_
                  rotate_left 1
                  · intro w hSw; (obtain ⟨g0, g1⟩ := hSw); go_simp; (try with_reducible rfl)
                  (try simp only [Act.put, List.setIfInBounds_toArray, List.set_cons_zero, List.set_cons_succ])
                  refine wpAnyH_take (i := 2) (v := ?_) (by simp only [List.getElem?_toArray, List.getElem?_cons_succ, List.getElem?_cons_zero]; rfl) (by kernel_rfl) (by kernel_rfl) (by kernel_rfl) (by exact fun _ _ _ h => h) (Or.inl ⟨by rfl, ?_⟩) (by assumption) ?_
                  rotate_left 1
                  · intro w hSw; (obtain ⟨g0, g1⟩ := hSw); go_simp; (try with_reducible rfl)
                  (try simp only [Act.put, List.setIfInBounds_toArray, List.set_cons_zero, List.set_cons_succ])
                  refine wpAnyH_take (i := 3) (v := ?_) (by simp only [List.getElem?_toArray, List.getElem?_cons_succ, List.getElem?_cons_zero]; rfl) (by kernel_rfl) (by kernel_rfl) (by kernel_rfl) (by exact fun _ _ _ h => h) (Or.inl ⟨by rfl, ?_⟩) (by assumption) ?_
                  rotate_left 1
                  · intro w hSw; (obtain ⟨g0, g1⟩ := hSw); go_simp; (try with_reducible rfl)
                  (try simp only [Act.put, List.setIfInBounds_toArray, List.set_cons_zero, List.set_cons_succ])
                  refine wpAnyH_take (i := 4) (v := ?_) (by simp only [List.getElem?_toArray, List.getElem?_cons_succ, List.getElem?_cons_zero]; rfl) (by kernel_rfl) (by kernel_rfl) (by kernel_rfl) (by exact fun _ _ _ h => h) (Or.inl ⟨by rfl, ?_⟩) (by assumption) ?_
                  rotate_left 1
                  · intro w hSw; (obtain ⟨g0, g1⟩ := hSw); go_simp; (try with_reducible rfl)
                  (try simp only [Act.put, List.setIfInBounds_toArray, List.set_cons_zero, List.set_cons_succ])
                  refine wpAnyH_take (i := 5) (v := ?_) (by simp only [List.getElem?_toArray, List.getElem?_cons_succ, List.getElem?_cons_zero]; rfl) (by kernel_rfl) (by kernel_rfl) (by kernel_rfl) (by exact fun _ _ _ h => h) (Or.inl ⟨by rfl, ?_⟩) (by assumption) ?_
                  rotate_left 1
                  · intro w hSw; (obtain ⟨g0, g1⟩ := hSw); go_simp; (try with_reducible rfl)
                  (try simp only [Act.put, List.setIfInBounds_toArray, List.set_cons_zero, List.set_cons_succ])
                  refine wpAnyH_ready (rs := [6]) (by kernel_rfl) (by simp) ?_
                  refine AllReadyH.cons (by simp only [List.getElem?_toArray, List.getElem?_cons_succ, List.getElem?_cons_zero]; rfl) (fun Kq hKq => ?_) AllReadyH.nil
                  go_simp
                  refine (next_any B R lb b2 _ HX3.out.drew).mono ?_
                  rintro e w9 ⟨rfl, rfl⟩
                  go_simp
                  refine hKq.out _ _ (hHeld) (fun hHeld2 => ?_)
                  clear hKq Kq hHeld
                  (try simp only [Act.put, List.setIfInBounds_toArray, List.set_cons_zero, List.set_cons_succ])
                  have hHeld := hHeld2
                  clear hHeld2
                  refine wpAnyH_take (i := 7) (v := .bool false) (by simp only [List.getElem?_toArray, List.getElem?_cons_succ, List.getElem?_cons_zero]; rfl) (by kernel_rfl) (by kernel_rfl) (by kernel_rfl) (by exact fun _ _ _ h => h) (Or.inl ⟨by rfl, ?_⟩) (by assumption) ?_
                  · intro w hSw; (obtain ⟨g0, g1⟩ := hSw); go_simp; (try first | omega | (rw [decide_eq_false_iff_not]; omega))
                  (try simp only [Act.put, List.setIfInBounds_toArray, List.set_cons_zero, List.set_cons_succ])
                  refine wpAnyH_take (i := 8) (v := ?_) (by simp only [List.getElem?_toArray, List.getElem?_cons_succ, List.getElem?_cons_zero]; rfl) (by kernel_rfl) (by kernel_rfl) (by kernel_rfl) (by exact fun _ _ _ h => h) (Or.inl ⟨by rfl, ?_⟩) (by assumption) ?_
                  rotate_left 1
                  · intro w hSw; (obtain ⟨g0, g1⟩ := hSw); go_simp; (try with_reducible rfl)
                  (try simp only [Act.put, List.setIfInBounds_toArray, List.set_cons_zero, List.set_cons_succ])
                  refine wpAnyH_take (i := 9) (v := ?_) (by simp only [List.getElem?_toArray, List.getElem?_cons_succ, List.getElem?_cons_zero]; rfl) (by kernel_rfl) (by kernel_rfl) (by kernel_rfl) (by exact fun _ _ _ h => h) (Or.inl ⟨by rfl, ?_⟩) (by assumption) ?_
                  rotate_left 1
                  · intro w hSw; (obtain ⟨g0, g1⟩ := hSw); go_simp; (try with_reducible rfl)
                  (try simp only [Act.put, List.setIfInBounds_toArray, List.set_cons_zero, List.set_cons_succ])
                  refine wpAnyH_take (i := 10) (v := ?_) (by simp only [List.getElem?_toArray, List.getElem?_cons_succ, List.getElem?_cons_zero]; rfl) (by kernel_rfl) (by kernel_rfl) (by kernel_rfl) (by exact fun _ _ _ h => h) (Or.inl ⟨by rfl, ?_⟩) (by assumption) ?_
                  rotate_left 1
                  · intro w hSw; (obtain ⟨g0, g1⟩ := hSw); go_simp; (try with_reducible rfl)
                  (try simp only [Act.put, List.setIfInBounds_toArray, List.set_cons_zero, List.set_cons_succ])
                  refine wpAnyH_take (i := 11) (v := ?_) (by simp only [List.getElem?_toArray, List.getElem?_cons_succ, List.getElem?_cons_zero]; rfl) (by kernel_rfl) (by kernel_rfl) (by kernel_rfl) (by exact fun _ _ _ h => h) (Or.inl ⟨by rfl, ?_⟩) (by assumption) ?_
                  rotate_left 1
                  · intro w hSw; (obtain ⟨g0, g1⟩ := hSw); go_simp; (try with_reducible rfl)
                  (try simp only [Act.put, List.setIfInBounds_toArray, List.set_cons_zero, List.set_cons_succ])
                  refine wpAnyH_take (i := 12) (v := ?_) (by simp only [List.getElem?_toArray, List.getElem?_cons_succ, List.getElem?_cons_zero]; rfl) (by kernel_rfl) (by kernel_rfl) (by kernel_rfl) (by exact fun _ _ _ h => h) (Or.inl ⟨by rfl, ?_⟩) (by assumption) ?_
                  rotate_left 1
                  · intro w hSw; (obtain ⟨g0, g1⟩ := hSw); go_simp; (try with_reducible rfl)
                  (try simp only [Act.put, List.setIfInBounds_toArray, List.set_cons_zero, List.set_cons_succ])
                  refine wpAnyH_take (i := 13) (v := ?_) (by simp only [List.getElem?_toArray, List.getElem?_cons_succ, List.getElem?_cons_zero]; rfl) (by kernel_rfl) (by kernel_rfl) (by kernel_rfl) (by exact fun _ _ _ h => h) (Or.inl ⟨by rfl, ?_⟩) (by assumption) ?_
                  rotate_left 1
                  · intro w hSw; (obtain ⟨g0, g1⟩ := hSw); go_simp; (try with_reducible rfl)
                  (try simp only [Act.put, List.setIfInBounds_toArray, List.set_cons_zero, List.set_cons_succ])
                  refine wpAnyH_take (i := 14) (v := ?_) (by simp only [List.getElem?_toArray, List.getElem?_cons_succ, List.getElem?_cons_zero]; rfl) (by kernel_rfl) (by kernel_rfl) (by kernel_rfl) (by exact fun _ _ _ h => h) (Or.inl ⟨by rfl, ?_⟩) (by assumption) ?_
                  rotate_left 1
                  · intro w hSw; (obtain ⟨g0, g1⟩ := hSw); go_simp; (try with_reducible rfl)
                  (try simp only [Act.put, List.setIfInBounds_toArray, List.set_cons_zero, List.set_cons_succ])
                  refine wpAnyH_take (i := 15) (v := .bool false) (by simp only [List.getElem?_toArray, List.getElem?_cons_succ, List.getElem?_cons_zero]; rfl) (by kernel_rfl) (by kernel_rfl) (by kernel_rfl) (by exact fun _ _ _ h => h) (Or.inl ⟨by rfl, ?_⟩) (by assumption) ?_
                  · intro w hSw; (obtain ⟨g0, g1⟩ := hSw); go_simp; (try first | omega | (rw [decide_eq_false_iff_not]; omega))
                  (try simp only [Act.put, List.setIfInBounds_toArray, List.set_cons_zero, List.set_cons_succ])
                  refine wpAnyH_take (i := 16) (v := ?_) (by simp only [List.getElem?_toArray, List.getElem?_cons_succ, List.getElem?_cons_zero]; rfl) (by kernel_rfl) (by kernel_rfl) (by kernel_rfl) (by exact fun _ _ _ h => h) (Or.inl ⟨by rfl, ?_⟩) (by assumption) ?_
                  rotate_left 1
                  · intro w hSw; (obtain ⟨g0, g1⟩ := hSw); go_simp; (try with_reducible rfl)
                  (try simp only [Act.put, List.setIfInBounds_toArray, List.set_cons_zero, List.set_cons_succ])
                  refine wpAnyH_take (i := 17) (v := ?_) (by simp only [List.getElem?_toArray, List.getElem?_cons_succ, List.getElem?_cons_zero]; rfl) (by kernel_rfl) (by kernel_rfl) (by kernel_rfl) (by exact fun _ _ _ h => h) (Or.inl ⟨by rfl, ?_⟩) (by assumption) ?_
                  rotate_left 1
                  · intro w hSw; (obtain ⟨g0, g1⟩ := hSw); go_simp; (try with_reducible rfl)
                  (try simp only [Act.put, List.setIfInBounds_toArray, List.set_cons_zero, List.set_cons_succ])
                  refine wpAnyH_take (i := 18) (v := ?_) (by simp only [List.getElem?_toArray, List.getElem?_cons_succ, List.getElem?_cons_zero]; rfl) (by kernel_rfl) (by kernel_rfl) (by kernel_rfl) (by exact fun _ _ _ h => h) (Or.inl ⟨by rfl, ?_⟩) (by assumption) ?_
                  rotate_left 1
                  · intro w hSw; (obtain ⟨g0, g1⟩ := hSw); go_simp; (try with_reducible rfl)
                  (try simp only [Act.put, List.setIfInBounds_toArray, List.set_cons_zero, List.set_cons_succ])
                  refine wpAnyH_take (i := 19) (v := ?_) (by simp only [List.getElem?_toArray, List.getElem?_cons_succ, List.getElem?_cons_zero]; rfl) (by kernel_rfl) (by kernel_rfl) (by kernel_rfl) (by exact fun _ _ _ h => h) (Or.inl ⟨by rfl, ?_⟩) (by assumption) ?_
                  rotate_left 1
                  · intro w hSw; (obtain ⟨g0, g1⟩ := hSw); go_simp; (try with_reducible rfl)
                  (try simp only [Act.put, List.setIfInBounds_toArray, List.set_cons_zero, List.set_cons_succ])
                  refine wpAnyH_take (i := 20) (v := ?_) (by simp only [List.getElem?_toArray, List.getElem?_cons_succ, List.getElem?_cons_zero]; rfl) (by kernel_rfl) (by kernel_rfl) (by kernel_rfl) (by exact fun _ _ _ h => h) (Or.inl ⟨by rfl, ?_⟩) (by assumption) ?_
                  rotate_left 1
                  · intro w hSw; (obtain ⟨g0, g1⟩ := hSw); go_simp; (try with_reducible rfl)
                  (try simp only [Act.put, List.setIfInBounds_toArray, List.set_cons_zero, List.set_cons_succ])
                  refine wpAnyH_take (i := 21) (v := ?_) (by simp only [List.getElem?_toArray, List.getElem?_cons_succ, List.getElem?_cons_zero]; rfl) (by kernel_rfl) (by kernel_rfl) (by kernel_rfl) (by exact fun _ _ _ h => h) (Or.inl ⟨by rfl, ?_⟩) (by assumption) ?_
                  rotate_left 1
                  · intro w hSw; (obtain ⟨g0, g1⟩ := hSw); go_simp; (try with_reducible rfl)
                  (try simp only [Act.put, List.setIfInBounds_toArray, List.set_cons_zero, List.set_cons_succ])
                  refine wpAnyH_take (i := 22) (v := ?_) (by simp only [List.getElem?_toArray, List.getElem?_cons_succ, List.getElem?_cons_zero]; rfl) (by kernel_rfl) (by kernel_rfl) (by kernel_rfl) (by exact fun _ _ _ h => h) (Or.inl ⟨by rfl, ?_⟩) (by assumption) ?_
                  rotate_left 1
                  · intro w hSw; (obtain ⟨g0, g1⟩ := hSw); go_simp; (try with_reducible rfl)
                  (try simp only [Act.put, List.setIfInBounds_toArray, List.set_cons_zero, List.set_cons_succ])
                  refine wpAnyH_take (i := 23) (v := ?_) (by simp only [List.getElem?_toArray, List.getElem?_cons_succ, List.getElem?_cons_zero]; rfl) (by kernel_rfl) (by kernel_rfl) (by kernel_rfl) (by exact fun _ _ _ h => h) (Or.inl ⟨by rfl, ?_⟩) (by assumption) ?_
                  rotate_left 1
                  · intro w hSw; (obtain ⟨g0, g1⟩ := hSw); go_simp; (try with_reducible rfl)
                  (try simp only [Act.put, List.setIfInBounds_toArray, List.set_cons_zero, List.set_cons_succ])
                  refine wpAnyH_take (i := 24) (v := ?_) (by simp only [List.getElem?_toArray, List.getElem?_cons_succ, List.getElem?_cons_zero]; rfl) (by kernel_rfl) (by kernel_rfl) (by kernel_rfl) (by exact fun _ _ _ h => h) (Or.inl ⟨by rfl, ?_⟩) (by assumption) ?_
                  rotate_left 1
                  · intro w hSw; (obtain ⟨g0, g1⟩ := hSw); go_simp; (try with_reducible rfl)
                  (try simp only [Act.put, List.setIfInBounds_toArray, List.set_cons_zero, List.set_cons_succ])
                  refine wpAnyH_take (i := 25) (v := ?_) (by simp only [List.getElem?_toArray, List.getElem?_cons_succ, List.getElem?_cons_zero]; rfl) (by kernel_rfl) (by kernel_rfl) (by kernel_rfl) (by exact fun _ _ _ h => h) (Or.inl ⟨by rfl, ?_⟩) (by assumption) ?_
                  rotate_left 1
                  · intro w hSw; (obtain ⟨g0, g1⟩ := hSw); go_simp; (try with_reducible rfl)
                  (try simp only [Act.put, List.setIfInBounds_toArray, List.set_cons_zero, List.set_cons_succ])
                  refine wpAnyH_take (i := 26) (v := ?_) (by simp only [List.getElem?_toArray, List.getElem?_cons_succ, List.getElem?_cons_zero]; rfl) (by kernel_rfl) (by kernel_rfl) (by kernel_rfl) (by exact fun _ _ _ h => h) (Or.inl ⟨by rfl, ?_⟩) (by assumption) ?_
                  rotate_left 1
                  · intro w hSw; (obtain ⟨g0, g1⟩ := hSw); go_simp; (try with_reducible rfl)
                  (try simp only [Act.put, List.setIfInBounds_toArray, List.set_cons_zero, List.set_cons_succ])
                  refine wpAnyH_take (i := 27) (v := ?_) (by simp only [List.getElem?_toArray, List.getElem?_cons_succ, List.getElem?_cons_zero]; rfl) (by kernel_rfl) (by kernel_rfl) (by kernel_rfl) (by exact fun _ _ _ h => h) (Or.inl ⟨by rfl, ?_⟩) (by assumption) ?_
                  rotate_left 1
                  · intro w hSw; (obtain ⟨g0, g1⟩ := hSw); go_simp; (try with_reducible rfl)
                  (try simp only [Act.put, List.setIfInBounds_toArray, List.set_cons_zero, List.set_cons_succ])
                  refine wpAnyH_take (i := 28) (v := .bool false) (by simp only [List.getElem?_toArray, List.getElem?_cons_succ, List.getElem?_cons_zero]; rfl) (by kernel_rfl) (by kernel_rfl) (by kernel_rfl) (by exact fun _ _ _ h => h) (Or.inl ⟨by rfl, ?_⟩) (by assumption) ?_
                  · intro w hSw; (obtain ⟨g0, g1⟩ := hSw); go_simp; (try first | omega | (rw [decide_eq_false_iff_not]; omega))
                  (try simp only [Act.put, List.setIfInBounds_toArray, List.set_cons_zero, List.set_cons_succ])
                  refine wpAnyH_take (i := 29) (v := ?_) (by simp only [List.getElem?_toArray, List.getElem?_cons_succ, List.getElem?_cons_zero]; rfl) (by kernel_rfl) (by kernel_rfl) (by kernel_rfl) (by exact fun _ _ _ h => h) (Or.inl ⟨by rfl, ?_⟩) (by assumption) ?_
                  rotate_left 1
                  · intro w hSw; (obtain ⟨g0, g1⟩ := hSw); go_simp; (try with_reducible rfl)
                  (try simp only [Act.put, List.setIfInBounds_toArray, List.set_cons_zero, List.set_cons_succ])
                  refine wpAnyH_take (i := 30) (v := ?_) (by simp only [List.getElem?_toArray, List.getElem?_cons_succ, List.getElem?_cons_zero]; rfl) (by kernel_rfl) (by kernel_rfl) (by kernel_rfl) (by exact fun _ _ _ h => h) (Or.inl ⟨by rfl, ?_⟩) (by assumption) ?_
                  rotate_left 1
                  · intro w hSw; (obtain ⟨g0, g1⟩ := hSw); go_simp; (try with_reducible rfl)
                  (try simp only [Act.put, List.setIfInBounds_toArray, List.set_cons_zero, List.set_cons_succ])
                  refine wpAnyH_take (i := 31) (v := ?_) (by simp only [List.getElem?_toArray, List.getElem?_cons_succ, List.getElem?_cons_zero]; rfl) (by kernel_rfl) (by kernel_rfl) (by kernel_rfl) (by exact fun _ _ _ h => h) (Or.inl ⟨by rfl, ?_⟩) (by assumption) ?_
                  rotate_left 1
                  · intro w hSw; (obtain ⟨g0, g1⟩ := hSw); go_simp; (try with_reducible rfl)
                  (try simp only [Act.put, List.setIfInBounds_toArray, List.set_cons_zero, List.set_cons_succ])
                  refine wpAnyH_take (i := 32) (v := ?_) (by simp only [List.getElem?_toArray, List.getElem?_cons_succ, List.getElem?_cons_zero]; rfl) (by kernel_rfl) (by kernel_rfl) (by kernel_rfl) (by exact fun _ _ _ h => h) (Or.inl ⟨by rfl, ?_⟩) (by assumption) ?_
                  rotate_left 1
                  · intro w hSw; (obtain ⟨g0, g1⟩ := hSw); go_simp; (try with_reducible rfl)
                  (try simp only [Act.put, List.setIfInBounds_toArray, List.set_cons_zero, List.set_cons_succ])
                  refine wpAnyH_take (i := 33) (v := ?_) (by simp only [List.getElem?_toArray, List.getElem?_cons_succ, List.getElem?_cons_zero]; rfl) (by kernel_rfl) (by kernel_rfl) (by kernel_rfl) (by exact fun _ _ _ h => h) (Or.inl ⟨by rfl, ?_⟩) (by assumption) ?_
                  rotate_left 1
                  · intro w hSw; (obtain ⟨g0, g1⟩ := hSw); go_simp; (try with_reducible rfl)
                  (try simp only [Act.put, List.setIfInBounds_toArray, List.set_cons_zero, List.set_cons_succ])
                  refine wpAnyH_take (i := 34) (v := ?_) (by simp only [List.getElem?_toArray, List.getElem?_cons_succ, List.getElem?_cons_zero]; rfl) (by kernel_rfl) (by kernel_rfl) (by kernel_rfl) (by exact fun _ _ _ h => h) (Or.inl ⟨by rfl, ?_⟩) (by assumption) ?_
                  rotate_left 1
                  · intro w hSw; (obtain ⟨g0, g1⟩ := hSw); go_simp; (try with_reducible rfl)
                  (try simp only [Act.put, List.setIfInBounds_toArray, List.set_cons_zero, List.set_cons_succ])
                  refine wpAnyH_take (i := 35) (v := ?_) (by simp only [List.getElem?_toArray, List.getElem?_cons_succ, List.getElem?_cons_zero]; rfl) (by kernel_rfl) (by kernel_rfl) (by kernel_rfl) (by exact fun _ _ _ h => h) (Or.inl ⟨by rfl, ?_⟩) (by assumption) ?_
                  rotate_left 1
                  · intro w hSw; (obtain ⟨g0, g1⟩ := hSw); go_simp; (try with_reducible rfl)
                  (try simp only [Act.put, List.setIfInBounds_toArray, List.set_cons_zero, List.set_cons_succ])
                  refine wpAnyH_ready (rs := [36]) (by kernel_rfl) (by simp) ?_
                  refine AllReadyH.cons (by simp only [List.getElem?_toArray, List.getElem?_cons_succ, List.getElem?_cons_zero]; rfl) (fun Kq hKq => ?_) AllReadyH.nil
                  go_simp
                  refine (contains_any _ _ a2 c2 (allL b2) (x1, x2) HA3.out (Nat.le_refl _)).mono ?_
                  rintro e y1 ⟨rfl, hy1⟩
                  rw [HHS.out]
                  replace hHeld := (⟨(hy1.cell (p := ⟨bb, bo + j * 2, none⟩) (by simpa using hbbr)).trans d0, (hy1.cell (p := ⟨bb, bo + j * 2 + 1, none⟩) (by simpa using hbbr)).trans d1⟩ : y1.cell? ⟨bb, bo + j * 2, none⟩ = some (.int .i64 x1) ∧ y1.cell? ⟨bb, bo + j * 2 + 1, none⟩ = some (.int .i64 x2))
                  have HY1 := Lib.hid hy1
                  clear hy1
                  go_simp
                  refine hKq.out _ _ (hHeld) (fun hHeld2 => ?_)
                  clear hKq Kq hHeld
                  (try simp only [Act.put, List.setIfInBounds_toArray, List.set_cons_zero, List.set_cons_succ])
                  have hHeld := hHeld2
                  clear hHeld2
                  refine wpAnyH_take (i := 37) (v := ?_) (by simp only [List.getElem?_toArray, List.getElem?_cons_succ, List.getElem?_cons_zero]; rfl) (by kernel_rfl) (by kernel_rfl) (by kernel_rfl) (by exact fun _ _ _ h => h) (Or.inl ⟨by rfl, ?_⟩) (by assumption) ?_
                  rotate_left 1
                  · intro w hSw; (obtain ⟨g0, g1⟩ := hSw); go_simp; (try with_reducible rfl)
                  (try simp only [Act.put, List.setIfInBounds_toArray, List.set_cons_zero, List.set_cons_succ])
                  refine wpAnyH_take (i := 38) (v := ?_) (by simp only [List.getElem?_toArray, List.getElem?_cons_succ, List.getElem?_cons_zero]; rfl) (by kernel_rfl) (by kernel_rfl) (by kernel_rfl) (by exact fun _ _ _ h => h) (Or.inl ⟨by rfl, ?_⟩) (by assumption) ?_
                  rotate_left 1
                  · intro w hSw; (obtain ⟨g0, g1⟩ := hSw); go_simp; (try with_reducible rfl)
                  (try simp only [Act.put, List.setIfInBounds_toArray, List.set_cons_zero, List.set_cons_succ])
                  refine wpAnyH_done (by kernel_rfl) ?_ _
                  have hyz := HY1.out.size
                  simp at hyz
                  obtain ⟨e0, e1⟩ := hHeld
                  go_wp2_with fail
                  refine (add_any _ _ ap cp P (x1, x2) ((HPS.out.below ((Below.refl _ wr).drew.trans HY1.out)).mono hyz) (Nat.le_refl _) hPc).mono ?_
                  rintro e y2 ⟨v, rfl, hv, hby⟩
                  have hAl : (addL P (x1, x2)).length ≤ 1099511627776 := by rw [HST.out.len]; have := Bx.rep_length b2; omega
                  obtain ⟨av, cv, rfl, hvs, hvc, -⟩ := hv.at hAl
                  have HVS := Lib.hid hvs
                  have HBY := Lib.hid (((HBW.out.drew).trans (HY1.out.mono (by simpa using hwsz))).trans (hby.mono (by omega)))
                  clear hv hvs hby hAl
                  go_wp2_with fail
                  exact ⟨⟨j + 1, addL P (x1, x2), av, cv, rfl, by simp, hjl, HST.out, HVS.out, hvc, HBY.out⟩, by simp [intOf]; omega⟩
              · as_aux_lemma =>
                  obtain rfl : j = b2.rep.length := by omega
                  have hlP : (P.length : Int) = (b2.rep.length : Int) := by rw [HPL.out]
                  have HLP := Lib.hid hlP
                  clear hlP
                  have hr3 : b2.rep.length ≤ 3 := by have := Bx.rep_length b2; omega
                  have hri : (b2.rep.length : Int) ≤ 3 := by omega
                  have f1 : ((P.length : Int) != (b2.rep.length : Int)) = false := by rw [HLP.out]; simp
                  have hac := allL_count HOK2.out
                  have hx0 := HOK2.out.rdnx
                  have hx1 := HOK2.out.nxend
                  rw [HRD2.out] at hx0 hx1
                  rw [HLN2.out] at hx1
                  have hFT : (F : Int) < (T : Int) := by omega
                  by_cases h3 : b2.rep.length < 3
                  · as_aux_lemma =>
                      have h3i : (b2.rep.length : Int) < 3 := by omega
                      have hPb := HP.out.all h3
                      have hcp : countL P = countF b2.bl := by rw [hPb]; unfold countL; rw [if_pos HOK2.out.canon]
                      have hHC := HC.out
                      have f3 : ((b2.nx + countF b2.bl) != (sum + pn)) = false := by rw [bne_eq_false_iff_eq]; omega
                      have hb0 : countF b2.bl ≤ 50 := by omega
                      have hb00 : 0 ≤ countF b2.bl := (countF_nonneg HOK2.out.canon).1
                      have HCP := Lib.hid hcp
                      clear hPb hcp hac hHC
                      go_wp2_with fail
                      refine (next_any B R lb b2 _ HX3.out).mono ?_
                      rintro e w9 ⟨rfl, rfl⟩
                      go_wp2_with fail
                      refine (count_any _ _ ap cp P HPS.out (Nat.le_refl _)).mono ?_
                      rintro e y3 ⟨rfl, hy3⟩
                      rw [HCP.out]
                      have HFB := Lib.hid (HBW.out.trans (hy3.mono hwsz))
                      have HX4 := Lib.hid (HX3.out.below hy3)
                      have HO4 := Lib.hid (HO2.out.belowW HFB.out)
                      have HE := Lib.hid (⟨HB.out.trans (HFB.out.mono HB.out.size), Nat.le_trans hlb HFB.out.size⟩ : Below w.heap.size w y3 ∧ lb ≤ y3.heap.size)
                      clear hy3
                      go_wp2_with fail
                      by_cases hnx : b2.nx < F
                      · obtain ⟨x, t, hxt, hx1, hx2⟩ := HNW.out (by omega) hnx
                        have hpl : 0 < b2.rep.length := by rw [hxt]; simp
                        obtain ⟨bb, bo, rfl, hbbr, hRC⟩ := HBA.out hpl
                        obtain ⟨d0, d1⟩ := hRC _ HFB.out 0 hpl
                        have e0 : b2.rep[0] = x := by simp only [hxt, List.getElem_cons_zero]
                        rw [e0] at d0 d1
                        rw [show bo + 0 * 2 = bo by omega] at d0
                        rw [show bo + 0 * 2 + 1 = bo + 1 by omega] at d1
                        have hpi : (0 : Int) < (b2.rep.length : Int) := by omega
                        have hzb : ((b2.rep.length : Int) == 0) = false := beq_eq_false_iff_ne.2 (by omega)
                        have hpz : b2.rep.length ≠ 0 := by omega
                        clear e0 hxt hRC
                        go_wp2_with fail
                        refine (next_any B R lb b2 _ HX4.out).mono ?_
                        rintro e w9 ⟨rfl, rfl⟩
                        go_wp2_with fail
                        exact ⟨⟨i + 1, sum + pn, rfl, by simp, by omega, ⟨⟨b2, HOK2.out, HRD2.out, HLN2.out, HX4.out, HO4.out, HC.out.symm⟩, HE.out.1, HE.out.2, HL.out.apart⟩⟩, by simp [intOf]; omega⟩
                      · have hnx2 : (F : Int) ≤ b2.nx := by omega
                        go_wp2_with fail
                        refine (next_any B R lb b2 _ HX4.out).mono ?_
                        rintro e w9 ⟨rfl, rfl⟩
                        go_wp2_with fail
                        exact ⟨⟨i + 1, sum + pn, rfl, by simp, by omega, ⟨⟨b2, HOK2.out, HRD2.out, HLN2.out, HX4.out, HO4.out, HC.out.symm⟩, HE.out.1, HE.out.2, HL.out.apart⟩⟩, by simp [intOf]; omega⟩
                  · as_aux_lemma =>
                      have h3i : (3 : Int) ≤ (b2.rep.length : Int) := by omega
                      have HFB := HBW
                      have HO4 := Lib.hid (HO2.out.belowW HFB.out)
                      have HE := Lib.hid (⟨HB.out.trans (HFB.out.mono HB.out.size), Nat.le_trans hlb HFB.out.size⟩ : Below w.heap.size w wr ∧ lb ≤ wr.heap.size)
                      clear hac
                      go_wp2_with fail
                      by_cases hnx : b2.nx < F
                      · obtain ⟨x, t, hxt, hx1, hx2⟩ := HNW.out (by omega) hnx
                        have hpl : 0 < b2.rep.length := by rw [hxt]; simp
                        obtain ⟨bb, bo, rfl, hbbr, hRC⟩ := HBA.out hpl
                        obtain ⟨d0, d1⟩ := hRC _ HFB.out 0 hpl
                        have e0 : b2.rep[0] = x := by simp only [hxt, List.getElem_cons_zero]
                        rw [e0] at d0 d1
                        rw [show bo + 0 * 2 = bo by omega] at d0
                        rw [show bo + 0 * 2 + 1 = bo + 1 by omega] at d1
                        have hpi : (0 : Int) < (b2.rep.length : Int) := by omega
                        have hzb : ((b2.rep.length : Int) == 0) = false := beq_eq_false_iff_ne.2 (by omega)
                        have hpz : b2.rep.length ≠ 0 := by omega
                        clear e0 hxt hRC
                        go_wp2_with fail
                        refine (next_any B R lb b2 _ HX3.out).mono ?_
                        rintro e w9 ⟨rfl, rfl⟩
                        go_wp2_with fail
                        exact ⟨⟨i + 1, sum + pn, rfl, by simp, by omega, ⟨⟨b2, HOK2.out, HRD2.out, HLN2.out, HX3.out, HO4.out, HC.out.symm⟩, HE.out.1, HE.out.2, HL.out.apart⟩⟩, by simp [intOf]; omega⟩
                      · have hnx2 : (F : Int) ≤ b2.nx := by omega
                        go_wp2_with fail
                        refine (next_any B R lb b2 _ HX3.out).mono ?_
                        rintro e w9 ⟨rfl, rfl⟩
                        go_wp2_with fail
                        exact ⟨⟨i + 1, sum + pn, rfl, by simp, by omega, ⟨⟨b2, HOK2.out, HRD2.out, HLN2.out, HX3.out, HO4.out, HC.out.symm⟩, HE.out.1, HE.out.2, HL.out.apart⟩⟩, by simp [intOf]; omega⟩
        · as_aux_lemma =>
            rw [if_neg (by omega)] at al2
            have HAL := Lib.hid al2
            have hln2 : (allL b2).length ≤ 1099511627776 := by have := canon_len (allL_canon HOK2.out); omega
            rw [← al2] at HOW2 hacap ⊢
            clear al2
            obtain ⟨a', c', he, hsp2, hac2, -⟩ := HOW2.out.at hln2
            cases he
            have HO := HOW2
            have HA := Lib.hid hsp2
            clear HOW2 hsp2 hln2
            generalize aa = a2 at *
            generalize ac = c2 at *
            go_wp2_with fail
            refine (count_any _ _ a2 c2 (allL b2) HA.out (Nat.le_refl _)).mono ?_
            rintro e u3 ⟨rfl, hu3⟩
            rw [HCT.out]
            replace HX := Lib.hid (HX.out.below hu3)
            replace HB := Lib.hid (HB.out.trans (hu3.mono HB.out.size))
            replace HO := Lib.hid (HO.out.belowW hu3)
            replace HA := Lib.hid ((HA.out.below hu3).mono hu3.size)
            replace hlb := Nat.le_trans hlb hu3.size
            clear hu3
            go_wp2_with fail
            refine (blocks_any B R lb b2 _ HX.out HOK2.out).mono ?_
            rintro e u4 ⟨ba, bc, rfl, hrs, hrc, hfr, hu4⟩
            have HX2 := Lib.hid (HX.out.below hu4)
            replace HB := Lib.hid (HB.out.trans (hu4.mono HB.out.size))
            have HO2 := Lib.hid (HO.out.belowW hu4)
            have HA2 := Lib.hid ((HA.out.below hu4).mono hu4.size)
            replace hlb := Nat.le_trans hlb hu4.size
            have HRS := Lib.hid hrs
            clear hrs hu4 HX HO HA
            obtain ⟨W0, hW0⟩ : ∃ W0, W0 = u4 := ⟨_, rfl⟩
            subst hW0
            have HBA : Hid (0 < b2.rep.length → ∃ bb bo, ba = some ⟨bb, bo, none⟩ ∧ bb < W0.heap.size ∧ ∀ W, Below W0.heap.size W0 W → ∀ j (h : j < b2.rep.length), W.cell? ⟨bb, bo + j * 2, none⟩ = some (.int .i64 b2.rep[j].1) ∧ W.cell? ⟨bb, bo + j * 2 + 1, none⟩ = some (.int .i64 b2.rep[j].2)) := by
              refine Lib.hid (fun hp => ?_)
              obtain ⟨bb, bo, he, hbl, hc⟩ := HRS.out.cells hp
              exact ⟨bb, bo, he, hbl, fun W hW j hj => ⟨(hW.cell (p := ⟨bb, _, none⟩) hbl).trans (hc j hj).1, (hW.cell (p := ⟨bb, _, none⟩) hbl).trans (hc j hj).2⟩⟩
            clear hfr HRS
            go_wp2_with fail
            go_loopw [18, 19] (fun pv jv wr => ∃ (j : Nat) (P : List Sp) (ap : Option Addr) (cp : Nat), pv = .slice ap P.length cp ∧ jv = .int .i64 j ∧ j ≤ b2.rep.length ∧ SackI b2 j P ∧ SpAt wr wr.heap.size ap P ∧ P.length ≤ cp ∧ Below W0.heap.size W0 wr) (fun _ jv _ => b2.rep.length - (intOf jv).toNat)
            case atStart => exact ⟨0, [], none, 0, rfl, rfl, Nat.zero_le _, SackI.start _, ⟨by simp, fun h => by simp at h⟩, Nat.le_refl _, Below.refl _ _⟩
            case round =>
              obtain ⟨j, P, ap, cp, rfl, rfl, hj, hP, hPs, hPc, hbW⟩ := hrel
              have HP := Lib.hid hP
              have HPS := Lib.hid hPs
              have HBW := Lib.hid hbW
              have HX3 := Lib.hid (HX2.out.below hbW)
              have HA3 := Lib.hid (((HA2.out.below hbW).mono hbW.size).below (Below.refl _ _).drew)
              have hwsz := hbW.size
              have hPl := hP.len
              have hP3 : P.length ≤ 3 := by have := Bx.rep_length b2; omega
              have HPL := Lib.hid hPl
              clear hP hPs hbW hPl
              by_cases hjl : j < b2.rep.length
              · as_aux_lemma =>
                  have hrk := rep_ok HOK2.out HRD2.out (List.getElem_mem hjl)
                  obtain ⟨bb, bo, rfl, hbbr, hRC⟩ := HBA.out (by omega)
                  obtain ⟨d0, d1⟩ := hRC _ HBW.out j hjl
                  clear hRC
                  have HST := Lib.hid (SackI.step HOK2.out HP.out hjl)
                  have HXE := Lib.hid (show ∃ y, y = b2.rep[j] from ⟨_, rfl⟩)
                  generalize hx : b2.rep[j] = x at hrk d0 d1 HST
                  obtain ⟨x1, x2⟩ := x
                  obtain ⟨k1, k2, k3, k4⟩ := hrk
                  have HHS := Lib.hid k4
                  rw [HLN2.out] at k2
                  dsimp only at d0 d1 k1 k2 k3
                  replace hbbr : bb < wr.heap.size := by omega
                  have hji : (j : Int) < (b2.rep.length : Int) := by omega
                  have hj3 : (j : Int) ≤ 3 := by have := Bx.rep_length b2; omega
                  clear hx HXE k4
                  go_wp2_with fail
                  refine wp_region_held_drew (S := (fun W' : World => W'.cell? ⟨bb, bo + j * 2, none⟩ = some (.int .i64 x1) ∧ W'.cell? ⟨bb, bo + j * 2 + 1, none⟩ = some (.int .i64 x2))) (by kernel_rfl) (⟨d0, d1⟩) (fun hHeld => ?_)
                  refine wpAnyH_take (i := 0) (v := ?_) (by simp only [List.getElem?_toArray, List.getElem?_cons_zero]; rfl) (by kernel_rfl) (by kernel_rfl) (by kernel_rfl) (by exact fun _ _ _ h => h) (Or.inl ⟨by rfl, ?_⟩) (by assumption) ?_
                  rotate_left 1
                  · intro w hSw; (obtain ⟨g0, g1⟩ := hSw); go_simp; (try with_reducible rfl)
                  (try simp only [Act.put, List.setIfInBounds_toArray, List.set_cons_zero, List.set_cons_succ])
                  refine wpAnyH_take (i := 1) (v := ?_) (by simp only [List.getElem?_toArray, List.getElem?_cons_succ, List.getElem?_cons_zero]; rfl) (by kernel_rfl) (by kernel_rfl) (by kernel_rfl) (by exact fun _ _ _ h => h) (Or.inl ⟨by rfl, ?_⟩) (by assumption) ?_
                  rotate_left 1
                  · intro w hSw; (obtain ⟨g0, g1⟩ := hSw); go_simp; (try with_reducible rfl)
                  (try simp only [Act.put, List.setIfInBounds_toArray, List.set_cons_zero, List.set_cons_succ])
                  refine wpAnyH_take (i := 2) (v := ?_) (by simp only [List.getElem?_toArray, List.getElem?_cons_succ, List.getElem?_cons_zero]; rfl) (by kernel_rfl) (by kernel_rfl) (by kernel_rfl) (by exact fun _ _ _ h => h) (Or.inl ⟨by rfl, ?_⟩) (by assumption) ?_
                  rotate_left 1
                  · intro w hSw; (obtain ⟨g0, g1⟩ := hSw); go_simp; (try with_reducible rfl)
                  (try simp only [Act.put, List.setIfInBounds_toArray, List.set_cons_zero, List.set_cons_succ])
                  refine wpAnyH_take (i := 3) (v := ?_) (by simp only [List.getElem?_toArray, List.getElem?_cons_succ, List.getElem?_cons_zero]; rfl) (by kernel_rfl) (by kernel_rfl) (by kernel_rfl) (by exact fun _ _ _ h => h) (Or.inl ⟨by rfl, ?_⟩) (by assumption) ?_
                  rotate_left 1
                  · intro w hSw; (obtain ⟨g0, g1⟩ := hSw); go_simp; (try with_reducible rfl)
                  (try simp only [Act.put, List.setIfInBounds_toArray, List.set_cons_zero, List.set_cons_succ])
                  refine wpAnyH_take (i := 4) (v := ?_) (by simp only [List.getElem?_toArray, List.getElem?_cons_succ, List.getElem?_cons_zero]; rfl) (by kernel_rfl) (by kernel_rfl) (by kernel_rfl) (by exact fun _ _ _ h => h) (Or.inl ⟨by rfl, ?_⟩) (by assumption) ?_
                  rotate_left 1
                  · intro w hSw; (obtain ⟨g0, g1⟩ := hSw); go_simp; (try with_reducible rfl)
                  (try simp only [Act.put, List.setIfInBounds_toArray, List.set_cons_zero, List.set_cons_succ])
                  refine wpAnyH_take (i := 5) (v := ?_) (by simp only [List.getElem?_toArray, List.getElem?_cons_succ, List.getElem?_cons_zero]; rfl) (by kernel_rfl) (by kernel_rfl) (by kernel_rfl) (by exact fun _ _ _ h => h) (Or.inl ⟨by rfl, ?_⟩) (by assumption) ?_
                  rotate_left 1
                  · intro w hSw; (obtain ⟨g0, g1⟩ := hSw); go_simp; (try with_reducible rfl)
                  (try simp only [Act.put, List.setIfInBounds_toArray, List.set_cons_zero, List.set_cons_succ])
                  refine wpAnyH_ready (rs := [6]) (by kernel_rfl) (by simp) ?_
                  refine AllReadyH.cons (by simp only [List.getElem?_toArray, List.getElem?_cons_succ, List.getElem?_cons_zero]; rfl) (fun Kq hKq => ?_) AllReadyH.nil
                  go_simp
                  refine (next_any B R lb b2 _ HX3.out.drew).mono ?_
                  rintro e w9 ⟨rfl, rfl⟩
                  go_simp
                  refine hKq.out _ _ (hHeld) (fun hHeld2 => ?_)
                  clear hKq Kq hHeld
                  (try simp only [Act.put, List.setIfInBounds_toArray, List.set_cons_zero, List.set_cons_succ])
                  have hHeld := hHeld2
                  clear hHeld2
                  refine wpAnyH_take (i := 7) (v := .bool false) (by simp only [List.getElem?_toArray, List.getElem?_cons_succ, List.getElem?_cons_zero]; rfl) (by kernel_rfl) (by kernel_rfl) (by kernel_rfl) (by exact fun _ _ _ h => h) (Or.inl ⟨by rfl, ?_⟩) (by assumption) ?_
                  · intro w hSw; (obtain ⟨g0, g1⟩ := hSw); go_simp; (try first | omega | (rw [decide_eq_false_iff_not]; omega))
                  (try simp only [Act.put, List.setIfInBounds_toArray, List.set_cons_zero, List.set_cons_succ])
                  refine wpAnyH_take (i := 8) (v := ?_) (by simp only [List.getElem?_toArray, List.getElem?_cons_succ, List.getElem?_cons_zero]; rfl) (by kernel_rfl) (by kernel_rfl) (by kernel_rfl) (by exact fun _ _ _ h => h) (Or.inl ⟨by rfl, ?_⟩) (by assumption) ?_
                  rotate_left 1
                  · intro w hSw; (obtain ⟨g0, g1⟩ := hSw); go_simp; (try with_reducible rfl)
                  (try simp only [Act.put, List.setIfInBounds_toArray, List.set_cons_zero, List.set_cons_succ])
                  refine wpAnyH_take (i := 9) (v := ?_) (by simp only [List.getElem?_toArray, List.getElem?_cons_succ, List.getElem?_cons_zero]; rfl) (by kernel_rfl) (by kernel_rfl) (by kernel_rfl) (by exact fun _ _ _ h => h) (Or.inl ⟨by rfl, ?_⟩) (by assumption) ?_
                  rotate_left 1
                  · intro w hSw; (obtain ⟨g0, g1⟩ := hSw); go_simp; (try with_reducible rfl)
                  (try simp only [Act.put, List.setIfInBounds_toArray, List.set_cons_zero, List.set_cons_succ])
                  refine wpAnyH_take (i := 10) (v := ?_) (by simp only [List.getElem?_toArray, List.getElem?_cons_succ, List.getElem?_cons_zero]; rfl) (by kernel_rfl) (by kernel_rfl) (by kernel_rfl) (by exact fun _ _ _ h => h) (Or.inl ⟨by rfl, ?_⟩) (by assumption) ?_
                  rotate_left 1
                  · intro w hSw; (obtain ⟨g0, g1⟩ := hSw); go_simp; (try with_reducible rfl)
                  (try simp only [Act.put, List.setIfInBounds_toArray, List.set_cons_zero, List.set_cons_succ])
                  refine wpAnyH_take (i := 11) (v := ?_) (by simp only [List.getElem?_toArray, List.getElem?_cons_succ, List.getElem?_cons_zero]; rfl) (by kernel_rfl) (by kernel_rfl) (by kernel_rfl) (by exact fun _ _ _ h => h) (Or.inl ⟨by rfl, ?_⟩) (by assumption) ?_
                  rotate_left 1
                  · intro w hSw; (obtain ⟨g0, g1⟩ := hSw); go_simp; (try with_reducible rfl)
                  (try simp only [Act.put, List.setIfInBounds_toArray, List.set_cons_zero, List.set_cons_succ])
                  refine wpAnyH_take (i := 12) (v := ?_) (by simp only [List.getElem?_toArray, List.getElem?_cons_succ, List.getElem?_cons_zero]; rfl) (by kernel_rfl) (by kernel_rfl) (by kernel_rfl) (by exact fun _ _ _ h => h) (Or.inl ⟨by rfl, ?_⟩) (by assumption) ?_
                  rotate_left 1
                  · intro w hSw; (obtain ⟨g0, g1⟩ := hSw); go_simp; (try with_reducible rfl)
                  (try simp only [Act.put, List.setIfInBounds_toArray, List.set_cons_zero, List.set_cons_succ])
                  refine wpAnyH_take (i := 13) (v := ?_) (by simp only [List.getElem?_toArray, List.getElem?_cons_succ, List.getElem?_cons_zero]; rfl) (by kernel_rfl) (by kernel_rfl) (by kernel_rfl) (by exact fun _ _ _ h => h) (Or.inl ⟨by rfl, ?_⟩) (by assumption) ?_
                  rotate_left 1
                  · intro w hSw; (obtain ⟨g0, g1⟩ := hSw); go_simp; (try with_reducible rfl)
                  (try simp only [Act.put, List.setIfInBounds_toArray, List.set_cons_zero, List.set_cons_succ])
                  refine wpAnyH_take (i := 14) (v := ?_) (by simp only [List.getElem?_toArray, List.getElem?_cons_succ, List.getElem?_cons_zero]; rfl) (by kernel_rfl) (by kernel_rfl) (by kernel_rfl) (by exact fun _ _ _ h => h) (Or.inl ⟨by rfl, ?_⟩) (by assumption) ?_
                  rotate_left 1
                  · intro w hSw; (obtain ⟨g0, g1⟩ := hSw); go_simp; (try with_reducible rfl)
                  (try simp only [Act.put, List.setIfInBounds_toArray, List.set_cons_zero, List.set_cons_succ])
                  refine wpAnyH_take (i := 15) (v := .bool false) (by simp only [List.getElem?_toArray, List.getElem?_cons_succ, List.getElem?_cons_zero]; rfl) (by kernel_rfl) (by kernel_rfl) (by kernel_rfl) (by exact fun _ _ _ h => h) (Or.inl ⟨by rfl, ?_⟩) (by assumption) ?_
                  · intro w hSw; (obtain ⟨g0, g1⟩ := hSw); go_simp; (try first | omega | (rw [decide_eq_false_iff_not]; omega))
                  (try simp only [Act.put, List.setIfInBounds_toArray, List.set_cons_zero, List.set_cons_succ])
                  refine wpAnyH_take (i := 16) (v := ?_) (by simp only [List.getElem?_toArray, List.getElem?_cons_succ, List.getElem?_cons_zero]; rfl) (by kernel_rfl) (by kernel_rfl) (by kernel_rfl) (by exact fun _ _ _ h => h) (Or.inl ⟨by rfl, ?_⟩) (by assumption) ?_
                  rotate_left 1
                  · intro w hSw; (obtain ⟨g0, g1⟩ := hSw); go_simp; (try with_reducible rfl)
                  (try simp only [Act.put, List.setIfInBounds_toArray, List.set_cons_zero, List.set_cons_succ])
                  refine wpAnyH_take (i := 17) (v := ?_) (by simp only [List.getElem?_toArray, List.getElem?_cons_succ, List.getElem?_cons_zero]; rfl) (by kernel_rfl) (by kernel_rfl) (by kernel_rfl) (by exact fun _ _ _ h => h) (Or.inl ⟨by rfl, ?_⟩) (by assumption) ?_
                  rotate_left 1
                  · intro w hSw; (obtain ⟨g0, g1⟩ := hSw); go_simp; (try with_reducible rfl)
                  (try simp only [Act.put, List.setIfInBounds_toArray, List.set_cons_zero, List.set_cons_succ])
                  refine wpAnyH_take (i := 18) (v := ?_) (by simp only [List.getElem?_toArray, List.getElem?_cons_succ, List.getElem?_cons_zero]; rfl) (by kernel_rfl) (by kernel_rfl) (by kernel_rfl) (by exact fun _ _ _ h => h) (Or.inl ⟨by rfl, ?_⟩) (by assumption) ?_
                  rotate_left 1
                  · intro w hSw; (obtain ⟨g0, g1⟩ := hSw); go_simp; (try with_reducible rfl)
                  (try simp only [Act.put, List.setIfInBounds_toArray, List.set_cons_zero, List.set_cons_succ])
                  refine wpAnyH_take (i := 19) (v := ?_) (by simp only [List.getElem?_toArray, List.getElem?_cons_succ, List.getElem?_cons_zero]; rfl) (by kernel_rfl) (by kernel_rfl) (by kernel_rfl) (by exact fun _ _ _ h => h) (Or.inl ⟨by rfl, ?_⟩) (by assumption) ?_
                  rotate_left 1
                  · intro w hSw; (obtain ⟨g0, g1⟩ := hSw); go_simp; (try with_reducible rfl)
                  (try simp only [Act.put, List.setIfInBounds_toArray, List.set_cons_zero, List.set_cons_succ])
                  refine wpAnyH_take (i := 20) (v := ?_) (by simp only [List.getElem?_toArray, List.getElem?_cons_succ, List.getElem?_cons_zero]; rfl) (by kernel_rfl) (by kernel_rfl) (by kernel_rfl) (by exact fun _ _ _ h => h) (Or.inl ⟨by rfl, ?_⟩) (by assumption) ?_
                  rotate_left 1
                  · intro w hSw; (obtain ⟨g0, g1⟩ := hSw); go_simp; (try with_reducible rfl)
                  (try simp only [Act.put, List.setIfInBounds_toArray, List.set_cons_zero, List.set_cons_succ])
                  refine wpAnyH_take (i := 21) (v := ?_) (by simp only [List.getElem?_toArray, List.getElem?_cons_succ, List.getElem?_cons_zero]; rfl) (by kernel_rfl) (by kernel_rfl) (by kernel_rfl) (by exact fun _ _ _ h => h) (Or.inl ⟨by rfl, ?_⟩) (by assumption) ?_
                  rotate_left 1
                  · intro w hSw; (obtain ⟨g0, g1⟩ := hSw); go_simp; (try with_reducible rfl)
                  (try simp only [Act.put, List.setIfInBounds_toArray, List.set_cons_zero, List.set_cons_succ])
                  refine wpAnyH_take (i := 22) (v := ?_) (by simp only [List.getElem?_toArray, List.getElem?_cons_succ, List.getElem?_cons_zero]; rfl) (by kernel_rfl) (by kernel_rfl) (by kernel_rfl) (by exact fun _ _ _ h => h) (Or.inl ⟨by rfl, ?_⟩) (by assumption) ?_
                  rotate_left 1
                  · intro w hSw; (obtain ⟨g0, g1⟩ := hSw); go_simp; (try with_reducible rfl)
                  (try simp only [Act.put, List.setIfInBounds_toArray, List.set_cons_zero, List.set_cons_succ])
                  refine wpAnyH_take (i := 23) (v := ?_) (by simp only [List.getElem?_toArray, List.getElem?_cons_succ, List.getElem?_cons_zero]; rfl) (by kernel_rfl) (by kernel_rfl) (by kernel_rfl) (by exact fun _ _ _ h => h) (Or.inl ⟨by rfl, ?_⟩) (by assumption) ?_
                  rotate_left 1
                  · intro w hSw; (obtain ⟨g0, g1⟩ := hSw); go_simp; (try with_reducible rfl)
                  (try simp only [Act.put, List.setIfInBounds_toArray, List.set_cons_zero, List.set_cons_succ])
                  refine wpAnyH_take (i := 24) (v := ?_) (by simp only [List.getElem?_toArray, List.getElem?_cons_succ, List.getElem?_cons_zero]; rfl) (by kernel_rfl) (by kernel_rfl) (by kernel_rfl) (by exact fun _ _ _ h => h) (Or.inl ⟨by rfl, ?_⟩) (by assumption) ?_
                  rotate_left 1
                  · intro w hSw; (obtain ⟨g0, g1⟩ := hSw); go_simp; (try with_reducible rfl)
                  (try simp only [Act.put, List.setIfInBounds_toArray, List.set_cons_zero, List.set_cons_succ])
                  refine wpAnyH_take (i := 25) (v := ?_) (by simp only [List.getElem?_toArray, List.getElem?_cons_succ, List.getElem?_cons_zero]; rfl) (by kernel_rfl) (by kernel_rfl) (by kernel_rfl) (by exact fun _ _ _ h => h) (Or.inl ⟨by rfl, ?_⟩) (by assumption) ?_
                  rotate_left 1
                  · intro w hSw; (obtain ⟨g0, g1⟩ := hSw); go_simp; (try with_reducible rfl)
                  (try simp only [Act.put, List.setIfInBounds_toArray, List.set_cons_zero, List.set_cons_succ])
                  refine wpAnyH_take (i := 26) (v := ?_) (by simp only [List.getElem?_toArray, List.getElem?_cons_succ, List.getElem?_cons_zero]; rfl) (by kernel_rfl) (by kernel_rfl) (by kernel_rfl) (by exact fun _ _ _ h => h) (Or.inl ⟨by rfl, ?_⟩) (by assumption) ?_
                  rotate_left 1
                  · intro w hSw; (obtain ⟨g0, g1⟩ := hSw); go_simp; (try with_reducible rfl)
                  (try simp only [Act.put, List.setIfInBounds_toArray, List.set_cons_zero, List.set_cons_succ])
                  refine wpAnyH_take (i := 27) (v := ?_) (by simp only [List.getElem?_toArray, List.getElem?_cons_succ, List.getElem?_cons_zero]; rfl) (by kernel_rfl) (by kernel_rfl) (by kernel_rfl) (by exact fun _ _ _ h => h) (Or.inl ⟨by rfl, ?_⟩) (by assumption) ?_
                  rotate_left 1
                  · intro w hSw; (obtain ⟨g0, g1⟩ := hSw); go_simp; (try with_reducible rfl)
                  (try simp only [Act.put, List.setIfInBounds_toArray, List.set_cons_zero, List.set_cons_succ])
                  refine wpAnyH_take (i := 28) (v := .bool false) (by simp only [List.getElem?_toArray, List.getElem?_cons_succ, List.getElem?_cons_zero]; rfl) (by kernel_rfl) (by kernel_rfl) (by kernel_rfl) (by exact fun _ _ _ h => h) (Or.inl ⟨by rfl, ?_⟩) (by assumption) ?_
                  · intro w hSw; (obtain ⟨g0, g1⟩ := hSw); go_simp; (try first | omega | (rw [decide_eq_false_iff_not]; omega))
                  (try simp only [Act.put, List.setIfInBounds_toArray, List.set_cons_zero, List.set_cons_succ])
                  refine wpAnyH_take (i := 29) (v := ?_) (by simp only [List.getElem?_toArray, List.getElem?_cons_succ, List.getElem?_cons_zero]; rfl) (by kernel_rfl) (by kernel_rfl) (by kernel_rfl) (by exact fun _ _ _ h => h) (Or.inl ⟨by rfl, ?_⟩) (by assumption) ?_
                  rotate_left 1
                  · intro w hSw; (obtain ⟨g0, g1⟩ := hSw); go_simp; (try with_reducible rfl)
                  (try simp only [Act.put, List.setIfInBounds_toArray, List.set_cons_zero, List.set_cons_succ])
                  refine wpAnyH_take (i := 30) (v := ?_) (by simp only [List.getElem?_toArray, List.getElem?_cons_succ, List.getElem?_cons_zero]; rfl) (by kernel_rfl) (by kernel_rfl) (by kernel_rfl) (by exact fun _ _ _ h => h) (Or.inl ⟨by rfl, ?_⟩) (by assumption) ?_
                  rotate_left 1
                  · intro w hSw; (obtain ⟨g0, g1⟩ := hSw); go_simp; (try with_reducible rfl)
                  (try simp only [Act.put, List.setIfInBounds_toArray, List.set_cons_zero, List.set_cons_succ])
                  refine wpAnyH_take (i := 31) (v := ?_) (by simp only [List.getElem?_toArray, List.getElem?_cons_succ, List.getElem?_cons_zero]; rfl) (by kernel_rfl) (by kernel_rfl) (by kernel_rfl) (by exact fun _ _ _ h => h) (Or.inl ⟨by rfl, ?_⟩) (by assumption) ?_
                  rotate_left 1
                  · intro w hSw; (obtain ⟨g0, g1⟩ := hSw); go_simp; (try with_reducible rfl)
                  (try simp only [Act.put, List.setIfInBounds_toArray, List.set_cons_zero, List.set_cons_succ])
                  refine wpAnyH_take (i := 32) (v := ?_) (by simp only [List.getElem?_toArray, List.getElem?_cons_succ, List.getElem?_cons_zero]; rfl) (by kernel_rfl) (by kernel_rfl) (by kernel_rfl) (by exact fun _ _ _ h => h) (Or.inl ⟨by rfl, ?_⟩) (by assumption) ?_
                  rotate_left 1
                  · intro w hSw; (obtain ⟨g0, g1⟩ := hSw); go_simp; (try with_reducible rfl)
                  (try simp only [Act.put, List.setIfInBounds_toArray, List.set_cons_zero, List.set_cons_succ])
                  refine wpAnyH_take (i := 33) (v := ?_) (by simp only [List.getElem?_toArray, List.getElem?_cons_succ, List.getElem?_cons_zero]; rfl) (by kernel_rfl) (by kernel_rfl) (by kernel_rfl) (by exact fun _ _ _ h => h) (Or.inl ⟨by rfl, ?_⟩) (by assumption) ?_
                  rotate_left 1
                  · intro w hSw; (obtain ⟨g0, g1⟩ := hSw); go_simp; (try with_reducible rfl)
                  (try simp only [Act.put, List.setIfInBounds_toArray, List.set_cons_zero, List.set_cons_succ])
                  refine wpAnyH_take (i := 34) (v := ?_) (by simp only [List.getElem?_toArray, List.getElem?_cons_succ, List.getElem?_cons_zero]; rfl) (by kernel_rfl) (by kernel_rfl) (by kernel_rfl) (by exact fun _ _ _ h => h) (Or.inl ⟨by rfl, ?_⟩) (by assumption) ?_
                  rotate_left 1
                  · intro w hSw; (obtain ⟨g0, g1⟩ := hSw); go_simp; (try with_reducible rfl)
                  (try simp only [Act.put, List.setIfInBounds_toArray, List.set_cons_zero, List.set_cons_succ])
                  refine wpAnyH_take (i := 35) (v := ?_) (by simp only [List.getElem?_toArray, List.getElem?_cons_succ, List.getElem?_cons_zero]; rfl) (by kernel_rfl) (by kernel_rfl) (by kernel_rfl) (by exact fun _ _ _ h => h) (Or.inl ⟨by rfl, ?_⟩) (by assumption) ?_
                  rotate_left 1
                  · intro w hSw; (obtain ⟨g0, g1⟩ := hSw); go_simp; (try with_reducible rfl)
                  (try simp only [Act.put, List.setIfInBounds_toArray, List.set_cons_zero, List.set_cons_succ])
                  refine wpAnyH_ready (rs := [36]) (by kernel_rfl) (by simp) ?_
                  refine AllReadyH.cons (by simp only [List.getElem?_toArray, List.getElem?_cons_succ, List.getElem?_cons_zero]; rfl) (fun Kq hKq => ?_) AllReadyH.nil
                  go_simp
                  refine (contains_any _ _ a2 c2 (allL b2) (x1, x2) HA3.out (Nat.le_refl _)).mono ?_
                  rintro e y1 ⟨rfl, hy1⟩
                  rw [HHS.out]
                  replace hHeld := (⟨(hy1.cell (p := ⟨bb, bo + j * 2, none⟩) (by simpa using hbbr)).trans d0, (hy1.cell (p := ⟨bb, bo + j * 2 + 1, none⟩) (by simpa using hbbr)).trans d1⟩ : y1.cell? ⟨bb, bo + j * 2, none⟩ = some (.int .i64 x1) ∧ y1.cell? ⟨bb, bo + j * 2 + 1, none⟩ = some (.int .i64 x2))
                  have HY1 := Lib.hid hy1
                  clear hy1
                  go_simp
                  refine hKq.out _ _ (hHeld) (fun hHeld2 => ?_)
                  clear hKq Kq hHeld
                  (try simp only [Act.put, List.setIfInBounds_toArray, List.set_cons_zero, List.set_cons_succ])
                  have hHeld := hHeld2
                  clear hHeld2
                  refine wpAnyH_take (i := 37) (v := ?_) (by simp only [List.getElem?_toArray, List.getElem?_cons_succ, List.getElem?_cons_zero]; rfl) (by kernel_rfl) (by kernel_rfl) (by kernel_rfl) (by exact fun _ _ _ h => h) (Or.inl ⟨by rfl, ?_⟩) (by assumption) ?_
                  rotate_left 1
                  · intro w hSw; (obtain ⟨g0, g1⟩ := hSw); go_simp; (try with_reducible rfl)
                  (try simp only [Act.put, List.setIfInBounds_toArray, List.set_cons_zero, List.set_cons_succ])
                  refine wpAnyH_take (i := 38) (v := ?_) (by simp only [List.getElem?_toArray, List.getElem?_cons_succ, List.getElem?_cons_zero]; rfl) (by kernel_rfl) (by kernel_rfl) (by kernel_rfl) (by exact fun _ _ _ h => h) (Or.inl ⟨by rfl, ?_⟩) (by assumption) ?_
                  rotate_left 1
                  · intro w hSw; (obtain ⟨g0, g1⟩ := hSw); go_simp; (try with_reducible rfl)
                  (try simp only [Act.put, List.setIfInBounds_toArray, List.set_cons_zero, List.set_cons_succ])
                  refine wpAnyH_done (by kernel_rfl) ?_ _
                  have hyz := HY1.out.size
                  simp at hyz
                  obtain ⟨e0, e1⟩ := hHeld
                  go_wp2_with fail
                  refine (add_any _ _ ap cp P (x1, x2) ((HPS.out.below ((Below.refl _ wr).drew.trans HY1.out)).mono hyz) (Nat.le_refl _) hPc).mono ?_
                  rintro e y2 ⟨v, rfl, hv, hby⟩
                  have hAl : (addL P (x1, x2)).length ≤ 1099511627776 := by rw [HST.out.len]; have := Bx.rep_length b2; omega
                  obtain ⟨av, cv, rfl, hvs, hvc, -⟩ := hv.at hAl
                  have HVS := Lib.hid hvs
                  have HBY := Lib.hid (((HBW.out.drew).trans (HY1.out.mono (by simpa using hwsz))).trans (hby.mono (by omega)))
                  clear hv hvs hby hAl
                  go_wp2_with fail
                  exact ⟨⟨j + 1, addL P (x1, x2), av, cv, rfl, by simp, hjl, HST.out, HVS.out, hvc, HBY.out⟩, by simp [intOf]; omega⟩
              · as_aux_lemma =>
                  obtain rfl : j = b2.rep.length := by omega
                  have hlP : (P.length : Int) = (b2.rep.length : Int) := by rw [HPL.out]
                  have HLP := Lib.hid hlP
                  clear hlP
                  have hr3 : b2.rep.length ≤ 3 := by have := Bx.rep_length b2; omega
                  have hri : (b2.rep.length : Int) ≤ 3 := by omega
                  have f1 : ((P.length : Int) != (b2.rep.length : Int)) = false := by rw [HLP.out]; simp
                  have hac := allL_count HOK2.out
                  have hx0 := HOK2.out.rdnx
                  have hx1 := HOK2.out.nxend
                  rw [HRD2.out] at hx0 hx1
                  rw [HLN2.out] at hx1
                  have hFT : (T : Int) ≤ (F : Int) := by omega
                  by_cases h3 : b2.rep.length < 3
                  · as_aux_lemma =>
                      have h3i : (b2.rep.length : Int) < 3 := by omega
                      have hPb := HP.out.all h3
                      have hcp : countL P = countF b2.bl := by rw [hPb]; unfold countL; rw [if_pos HOK2.out.canon]
                      have hHC := HC.out
                      have f3 : ((b2.nx + countF b2.bl) != (sum + pn)) = false := by rw [bne_eq_false_iff_eq]; omega
                      have hb0 : countF b2.bl ≤ 50 := by omega
                      have hb00 : 0 ≤ countF b2.bl := (countF_nonneg HOK2.out.canon).1
                      have HCP := Lib.hid hcp
                      clear hPb hcp hac hHC
                      go_wp2_with fail
                      refine (next_any B R lb b2 _ HX3.out).mono ?_
                      rintro e w9 ⟨rfl, rfl⟩
                      go_wp2_with fail
                      refine (count_any _ _ ap cp P HPS.out (Nat.le_refl _)).mono ?_
                      rintro e y3 ⟨rfl, hy3⟩
                      rw [HCP.out]
                      have HFB := Lib.hid (HBW.out.trans (hy3.mono hwsz))
                      have HX4 := Lib.hid (HX3.out.below hy3)
                      have HO4 := Lib.hid (HO2.out.belowW HFB.out)
                      have HE := Lib.hid (⟨HB.out.trans (HFB.out.mono HB.out.size), Nat.le_trans hlb HFB.out.size⟩ : Below w.heap.size w y3 ∧ lb ≤ y3.heap.size)
                      clear hy3
                      go_wp2_with fail
                      go_wp2_with fail
                      exact ⟨⟨i + 1, sum + pn, rfl, by simp, by omega, ⟨⟨b2, HOK2.out, HRD2.out, HLN2.out, HX4.out, HO4.out, HC.out.symm⟩, HE.out.1, HE.out.2, HL.out.apart⟩⟩, by simp [intOf]; omega⟩
                  · as_aux_lemma =>
                      have h3i : (3 : Int) ≤ (b2.rep.length : Int) := by omega
                      have HFB := HBW
                      have HO4 := Lib.hid (HO2.out.belowW HFB.out)
                      have HE := Lib.hid (⟨HB.out.trans (HFB.out.mono HB.out.size), Nat.le_trans hlb HFB.out.size⟩ : Below w.heap.size w wr ∧ lb ≤ wr.heap.size)
                      clear hac
                      go_wp2_with fail
                      go_wp2_with fail
                      exact ⟨⟨i + 1, sum + pn, rfl, by simp, by omega, ⟨⟨b2, HOK2.out, HRD2.out, HLN2.out, HX3.out, HO4.out, HC.out.symm⟩, HE.out.1, HE.out.2, HL.out.apart⟩⟩, by simp [intOf]; omega⟩
      · go_wp2_with fail
        go_ret
        exact ⟨rfl, HL.out.below⟩
    · go_wp2_with fail
      go_ret
      exact ⟨rfl, HL.out.below⟩
end Go.Proofs.Ytfeppkgcimgkeaa
