/- scoreboard.merged. -/
import Derived.Test.YtncjeleabpodaaaScMem
import Derived.Deep.LoopGhost
import Derived.Deep.QuietTactic
import Derived.BigQuiet
import Derived.RegionTactic
import Derived.BigRegion
namespace Go.Proofs.Ytncjeleabpodaaa
open Go.RowKit Go.Shelf
set_option maxRecDepth 100000 in
set_option maxHeartbeats 4000000 in
theorem merged_any (low : Int) (C m cap : Nat) (Ls : List SlA) (w : World) (hm : m = Ls.length) (h : ListsAt C Ls w) (h0 : 0 ≤ low) (hok : ∀ x ∈ allL Ls, okS x) (hsz : (allL Ls).length ≤ 1099511627776) (hm3 : m ≤ 3) :
    Calls Try.prog 73 #[.int .i64 low, .slice (some ⟨C, 0, none⟩) m cap] w fun e w' => ∃ v, e = .returned v ∧ OwnSp w' w.heap.size v (mergedL low (allL Ls)) ∧ Below w.heap.size w w' := by
  have HM := Lib.hid hm
  have HL := Lib.hid h
  have HOK := Lib.hid hok
  have HSZ := Lib.hid hsz
  have hCl := h.1
  clear hm h hok hsz
  go_enter Try.func73, Try.ntmps73
  go_wp2_with fail
  go_loopg [5, 16] m (fun g av jv wr => ∃ (j : Nat), jv = .int .i64 (j : Int) ∧ g + j = m ∧ OwnSp wr w.heap.size av (clipL low (allL (Ls.take j))) ∧ Below w.heap.size w wr)
  case atStart => exact ⟨0, rfl, rfl, OwnSp.nil _ _, Below.refl _ _⟩
  case round =>
    obtain ⟨j, rfl, hg, hO, hB⟩ := hrel
    have HO := Lib.hid hO
    have HB := Lib.hid hB
    have hws := hB.size
    clear hO hB
    by_cases hj : j < m
    · have hjl : j < Ls.length := by rw [← HM.out]; exact hj
      obtain ⟨lc0, lsp0⟩ := HL.out.2 j hjl
      have HTK := Lib.hid (allL_take hjl)
      have HLEN := Lib.hid (fun k => allL_len (k := k) hjl)
      have lc := (HB.out.cell (p := ⟨C, j, none⟩) HL.out.1).trans lc0
      have HSP := Lib.hid lsp0
      have hjm : (j : Int) < (m : Int) := by omega
      generalize Ls[j] = lj at lc HSP HTK HLEN
      clear lc0 lsp0
      obtain ⟨la, lcap, L⟩ := lj
      dsimp only at lc HSP HTK HLEN
      have hLs := HSP.out.small
      go_wp2_with fail
      clear lc
      obtain ⟨wo, rfl⟩ : ∃ wo : World, wo = wr := ⟨_, rfl⟩
      go_loopg [5, 22] L.length (fun g av kv wr => ∃ (k : Nat), kv = .int .i64 (k : Int) ∧ g + k = L.length ∧ OwnSp wr w.heap.size av (clipL low (allL (Ls.take j) ++ L.take k)) ∧ Below w.heap.size w wr)
      case atStart => exact ⟨0, rfl, rfl, by rw [List.take_zero, List.append_nil]; exact HO.out, HB.out⟩
      case round =>
        clear HO HB hws
        skip
        obtain ⟨k, rfl, hgk, hO, hB⟩ := hrel
        have HO := Lib.hid hO
        have HB := Lib.hid hB
        have hws := hB.size
        clear hO hB
        by_cases hk : k < L.length
        · obtain ⟨sb, so, rfl, hsb, hcs⟩ := HSP.out.cells (by omega)
          obtain ⟨c0, c1⟩ := hcs k hk
          have d0 := (HB.out.cell (p := ⟨sb, _, none⟩) hsb).trans c0
          have d1 := (HB.out.cell (p := ⟨sb, _, none⟩) hsb).trans c1
          clear c0 c1 hcs
          have HKT := Lib.hid (show clipL low (allL (Ls.take j) ++ L.take (k + 1)) = clipL low (allL (Ls.take j) ++ L.take k) ++ one (max L[k].1 low) L[k].2 by rw [List.take_succ_eq_append_getElem hk, ← List.append_assoc, clipL_append, clipL_one])
          have hll : (clipL low (allL (Ls.take j) ++ L.take k)).length ≤ 4398046511104 := by have h1 := clipL_len low (allL (Ls.take j) ++ L.take k); have h2 := HLEN.out k; have h3 := HSZ.out; omega
          have hki : (k : Int) < (L.length : Int) := by omega
          have hxo := HOK.out L[k] (by rw [← List.take_append_drop (j + 1) Ls]; unfold allL at *; rw [List.flatMap_append]; refine List.mem_append_left _ ?_; have := HTK.out; rw [this]; exact List.mem_append_right _ (List.getElem_mem hk))
          generalize L[k] = x at d0 d1 HKT hxo
          obtain ⟨x1, x2⟩ := x
          obtain ⟨o1, o2, o3⟩ := hxo
          dsimp only at d0 d1 HKT o1 o2 o3
          by_cases hx : max x1 low < x2
          · have hxl : low < x2 := by omega
            go_wp2_with (first | (at_builtin; refine wpList_append_span _ rfl _ _ rfl w.heap.size _ _ rfl ((HO.out.alloc _).alloc _) hll (wr.heap.size + 1) (max x1 low, x2) rfl (by simp) (by simp) (by simp; omega) ?_))
            intro v' w' ho hgr hbl
            have hb' : Below w.heap.size wr w' := (((Below.refl _ wr).alloc (by omega) _).alloc (by simp; omega) _).trans (grown_below hgr (by simp; omega) (fun b e => (HO.out.lt b e).1))
            have ho2 : OwnSp w' w.heap.size v' (clipL low (allL (Ls.take j) ++ L.take (k + 1))) := by rw [HKT.out]; unfold one; rw [if_pos hx]; exact ho
            have HO2 := Lib.hid ho2
            replace HB := Lib.hid (HB.out.trans hb')
            clear ho hgr hbl hb' ho2 d0 d1
            go_wp2_with fail
            go_roundg (gk - 1)
            case measure => omega
            case rel => exact ⟨k + 1, by go_num, by omega, HO2.out, HB.out⟩
          · have hx2 : max x1 low ≥ x2 := by omega
            go_wp2_with fail
            go_roundg (gk - 1)
            case measure => omega
            case rel => exact ⟨k + 1, by go_num, by omega, by rw [HKT.out]; unfold one; rw [if_neg (by omega), List.append_nil]; exact HO.out.alloc _, HB.out.alloc hws _⟩
        · obtain rfl : k = L.length := by omega
          go_wp2_with fail
          go_roundg (m - (j + 1))
          case measure => omega
          case rel => exact ⟨j + 1, by go_num, by omega, by rw [HTK.out]; have h := HO.out; rw [List.take_length] at h; exact h, HB.out⟩
    · obtain rfl : j = m := by omega
      have HAL := Lib.hid (show clipL low (allL (Ls.take j)) = clipL low (allL Ls) by rw [HM.out, List.take_length])
      rw [HAL.out] at HO
      have hcl := Nat.le_trans (clipL_len low (allL Ls)) HSZ.out
      go_wp2_with fail
      refine (sort_own HO.out hcl hws).mono ?_
      rintro e w2 ⟨rfl, D, da, dc, hv, hperm, hpw, hsp, hb2⟩
      have HSP := Lib.hid hsp
      replace HB := Lib.hid (HB.out.trans hb2)
      have hsm := hsp.small
      have HP := Lib.hid hperm
      have HPW := Lib.hid hpw
      have hw2 := HB.out.size
      obtain ⟨N2, hN2⟩ : ∃ N2, N2 = w2.heap.size := ⟨_, rfl⟩
      have hN2w : w.heap.size ≤ N2 := by omega
      have hN2l : N2 ≤ w2.heap.size := by omega
      rw [← hN2] at HSP
      subst hv
      clear hperm hpw hsp hb2 HO hN2
      go_wp2_with fail
      go_loopg [10, 46] D.length (fun g ov kv wr => ∃ (k : Nat), kv = .int .i64 (k : Int) ∧ g + k = D.length ∧ OwnSp wr N2 ov ((D.take k).foldl mrgS []) ∧ SpAt wr N2 da D ∧ Below w.heap.size w wr ∧ N2 ≤ wr.heap.size)
      case atStart => exact ⟨0, rfl, rfl, OwnSp.nil _ _, HSP.out, HB.out, hN2l⟩
      case round =>
        clear HSP HB hw2 hN2l
        obtain ⟨k, rfl, hgk, hO, hS, hB, hN⟩ := hrel
        have HO := Lib.hid hO
        have HSP := Lib.hid hS
        have HB := Lib.hid hB
        clear hO hS hB
        by_cases hk : k < D.length
        · obtain ⟨sb, so, rfl, hsb, hcs⟩ := HSP.out.cells (by omega)
          obtain ⟨d0, d1⟩ := hcs k hk
          have HFT := Lib.hid (show (D.take (k + 1)).foldl mrgS [] = mrgS ((D.take k).foldl mrgS []) D[k] by rw [List.take_succ_eq_append_getElem hk, List.foldl_append]; rfl)
          have hol : ((D.take k).foldl mrgS []).length ≤ k := by have := mrg_len (D.take k) []; rw [List.length_take] at this; simp at this; omega
          have hki : (k : Int) < (D.length : Int) := by omega
          clear hcs
          generalize D[k] = x at d0 d1 HFT
          generalize (D.take k).foldl mrgS [] = out at HO HFT hol
          obtain ⟨x1, x2⟩ := x
          dsimp only at d0 d1 HFT
          rcases getLast_cases out with rfl | ⟨A, l, rfl⟩
          · rcases HO.out.cases with ⟨rfl, -⟩ | ⟨og, oc, rfl, -, -, -, -⟩
            · rw [show mrgS [] (x1, x2) = [(x1, x2)] from rfl] at HFT
              have hll : ([] : List Sp).length ≤ 4398046511104 := by simp
              go_wp2_with fail
              have hb := sgBel wr (.cells #[.int .i64 x1, .int .i64 x2] 51)
              have e0 : (wr.alloc (.cells #[.int .i64 x1, .int .i64 x2] 51)).cell? ⟨wr.heap.size, 0, none⟩ = some (.int .i64 x1) := (At.new (W := wr) (vs := #[.int .i64 x1, .int .i64 x2]) _ rfl rfl).1
              have e1 : (wr.alloc (.cells #[.int .i64 x1, .int .i64 x2] 51)).cell? ⟨wr.heap.size, 1, none⟩ = some (.int .i64 x2) := (At.new (W := wr) (vs := #[.int .i64 x1, .int .i64 x2]) _ rfl rfl).1
              have hs3 : (wr.alloc (.cells #[.int .i64 x1, .int .i64 x2] 51)).heap.size = wr.heap.size + 1 := by simp
              replace HO := Lib.hid (HO.out.own2 hb)
              replace HSP := Lib.hid (HSP.out.below (hb.mono hN))
              replace HB := Lib.hid (HB.out.trans (hb.mono HB.out.size))
              obtain ⟨N3, hN3⟩ : ∃ N3, N3 = wr.heap.size := ⟨_, rfl⟩
              rw [← hN3] at e0 e1 hs3 ⊢
              generalize wr.alloc (.cells #[.int .i64 x1, .int .i64 x2] 51) = W3 at HO HSP HB e0 e1 hs3  ⊢
              have hN4 : N2 ≤ W3.heap.size := by omega
              clear hb d0 d1 hs3 hN3
              go_quiet (fail)
              obtain ⟨W4, hW4⟩ : ∃ W4, W4 = W3.drewN nq := ⟨_, rfl⟩
              rw [← hW4]
              replace HO := Lib.hid (show OwnSp W4 N2 (.slice none 0 0) [] by rw [hW4]; exact HO.out)
              replace HSP := Lib.hid (show SpAt W4 N2 (some ⟨sb, so, none⟩) D by rw [hW4]; exact HSP.out.below (show Below N2 W3 (W3.drewN nq) from ⟨rfl, rfl, rfl, Nat.le_refl _, fun _ _ => rfl⟩))
              replace HB := Lib.hid (show Below w.heap.size w W4 by rw [hW4]; exact ⟨HB.out.os, HB.out.tape, HB.out.output, HB.out.size, HB.out.block⟩)
              replace e0 : W4.cell? ⟨N3, 0, none⟩ = some (.int .i64 x1) := by rw [hW4]; exact e0
              replace e1 : W4.cell? ⟨N3, 1, none⟩ = some (.int .i64 x2) := by rw [hW4]; exact e1
              replace hN4 : N2 ≤ W4.heap.size := by rw [hW4]; exact hN4
              clear hW4
              skip
              go_wp2_with (first | (at_builtin; refine wpList_append_span _ rfl _ _ rfl N2 _ _ rfl (HO.out.alloc _) hll W4.heap.size (x1, x2) rfl (by simp) (by simp) (by simp; omega) ?_))
              intro v' w' ho hgr hbl
              have hb' : Below N2 W4 w' := ((Below.refl _ W4).alloc hN4 _).trans (grown_below hgr (by simp; omega) (fun b e => (HO.out.lt b e).1))
              replace HSP := Lib.hid (HSP.out.below hb')
              replace HB := Lib.hid (HB.out.trans (hb'.mono hN2w))
              have HO2 := Lib.hid ho
              have hN5 := Nat.le_trans hN4 hb'.size
              clear ho hgr hbl hb' e0 e1
              go_wp2_with fail
              go_roundg (gk - 1)
              case measure => omega
              case rel => exact ⟨k + 1, by go_num, by omega, by rw [HFT.out]; exact HO2.out, HSP.out, HB.out, hN5⟩
            · rw [show mrgS [] (x1, x2) = [(x1, x2)] from rfl] at HFT
              have hll : ([] : List Sp).length ≤ 4398046511104 := by simp
              go_wp2_with fail
              have hb := sgBel wr (.cells #[.int .i64 x1, .int .i64 x2] 51)
              have e0 : (wr.alloc (.cells #[.int .i64 x1, .int .i64 x2] 51)).cell? ⟨wr.heap.size, 0, none⟩ = some (.int .i64 x1) := (At.new (W := wr) (vs := #[.int .i64 x1, .int .i64 x2]) _ rfl rfl).1
              have e1 : (wr.alloc (.cells #[.int .i64 x1, .int .i64 x2] 51)).cell? ⟨wr.heap.size, 1, none⟩ = some (.int .i64 x2) := (At.new (W := wr) (vs := #[.int .i64 x1, .int .i64 x2]) _ rfl rfl).1
              have hs3 : (wr.alloc (.cells #[.int .i64 x1, .int .i64 x2] 51)).heap.size = wr.heap.size + 1 := by simp
              replace HO := Lib.hid (HO.out.own2 hb)
              replace HSP := Lib.hid (HSP.out.below (hb.mono hN))
              replace HB := Lib.hid (HB.out.trans (hb.mono HB.out.size))
              obtain ⟨N3, hN3⟩ : ∃ N3, N3 = wr.heap.size := ⟨_, rfl⟩
              rw [← hN3] at e0 e1 hs3 ⊢
              generalize wr.alloc (.cells #[.int .i64 x1, .int .i64 x2] 51) = W3 at HO HSP HB e0 e1 hs3  ⊢
              have hN4 : N2 ≤ W3.heap.size := by omega
              clear hb d0 d1 hs3 hN3
              go_quiet (fail)
              obtain ⟨W4, hW4⟩ : ∃ W4, W4 = W3.drewN nq := ⟨_, rfl⟩
              rw [← hW4]
              replace HO := Lib.hid (show OwnSp W4 N2 (.slice (some ⟨og, 0, none⟩) ([] : List Sp).length oc) [] by rw [hW4]; exact HO.out)
              replace HSP := Lib.hid (show SpAt W4 N2 (some ⟨sb, so, none⟩) D by rw [hW4]; exact HSP.out.below (show Below N2 W3 (W3.drewN nq) from ⟨rfl, rfl, rfl, Nat.le_refl _, fun _ _ => rfl⟩))
              replace HB := Lib.hid (show Below w.heap.size w W4 by rw [hW4]; exact ⟨HB.out.os, HB.out.tape, HB.out.output, HB.out.size, HB.out.block⟩)
              replace e0 : W4.cell? ⟨N3, 0, none⟩ = some (.int .i64 x1) := by rw [hW4]; exact e0
              replace e1 : W4.cell? ⟨N3, 1, none⟩ = some (.int .i64 x2) := by rw [hW4]; exact e1
              replace hN4 : N2 ≤ W4.heap.size := by rw [hW4]; exact hN4
              clear hW4
              skip
              go_wp2_with (first | (at_builtin; refine wpList_append_span _ rfl _ _ rfl N2 _ _ rfl (HO.out.alloc _) hll W4.heap.size (x1, x2) rfl (by simp) (by simp) (by simp; omega) ?_))
              intro v' w' ho hgr hbl
              have hb' : Below N2 W4 w' := ((Below.refl _ W4).alloc hN4 _).trans (grown_below hgr (by simp; omega) (fun b e => (HO.out.lt b e).1))
              replace HSP := Lib.hid (HSP.out.below hb')
              replace HB := Lib.hid (HB.out.trans (hb'.mono hN2w))
              have HO2 := Lib.hid ho
              have hN5 := Nat.le_trans hN4 hb'.size
              clear ho hgr hbl hb' e0 e1
              go_wp2_with fail
              go_roundg (gk - 1)
              case measure => omega
              case rel => exact ⟨k + 1, by go_num, by omega, by rw [HFT.out]; exact HO2.out, HSP.out, HB.out, hN5⟩
          · rcases HO.out.cases with ⟨-, h⟩ | ⟨og, oc, rfl, hog, hogl, -, -⟩
            · exact absurd h (by simp)
            obtain ⟨an, han⟩ : ∃ an, an = A.length := ⟨_, rfl⟩
            have hln : (A ++ [l]).length = an + 1 := by rw [List.length_append, han]; rfl
            have hll : (A ++ [l]).length ≤ 4398046511104 := by omega
            have hanb : an ≤ 1099511627776 := by omega
            obtain ⟨f1, f2⟩ := flatV_get (A ++ [l]) A.length (by simp)
            have hg1 := World.ownsRow.cells (show wr.ownsRow N2 51 2 (.slice (some ⟨og, 0, none⟩) (A ++ [l]).length oc) (A ++ [l]).length (flatV (A ++ [l])) from HO.out) (g := og) rfl _ _ f2
            rw [Addr.add_lit, List.getElem_append_right (Nat.le_refl _), Nat.zero_add] at hg1
            simp only [Nat.sub_self, List.getElem_cons_zero] at hg1
            rw [← han] at hg1
            have hgf : wr.frozen? ⟨og, an * 2 + 1, none⟩ = false := by
              rcases HO.out.2 with ⟨e, _⟩ | ⟨g', cap', cur, e, _, hg, _⟩
              · cases e
              · cases e; exact frozen_of_row _ _ _ _ _ hg
            have HMS : Hid (mrgS (A ++ [l]) (x1, x2) = if x1 ≤ l.2 then A ++ [(l.1, max l.2 x2)] else A ++ [l] ++ [(x1, x2)]) := Lib.hid (by unfold mrgS; rw [show (A ++ [l]).getLast? = some l by simp]; dsimp only; rw [List.dropLast_concat])
            rw [HMS.out] at HFT
            clear HMS f1 f2
            rw [hln] at HO ⊢
            have HAN := Lib.hid han
            have hlast : ((an : Int) + 1) - 1 = (an : Int) := by omega
            clear han hln
            obtain ⟨l1, l2⟩ := l
            dsimp only at hg1 HFT
            by_cases hx : x1 ≤ l2
            · rw [if_pos hx] at HFT
              skip
              go_wp2_with fail
              have hb := sgBel wr (.cells #[.int .i64 x1, .int .i64 x2] 51)
              have e0 : (wr.alloc (.cells #[.int .i64 x1, .int .i64 x2] 51)).cell? ⟨wr.heap.size, 0, none⟩ = some (.int .i64 x1) := (At.new (W := wr) (vs := #[.int .i64 x1, .int .i64 x2]) _ rfl rfl).1
              have e1 : (wr.alloc (.cells #[.int .i64 x1, .int .i64 x2] 51)).cell? ⟨wr.heap.size, 1, none⟩ = some (.int .i64 x2) := (At.new (W := wr) (vs := #[.int .i64 x1, .int .i64 x2]) _ rfl rfl).1
              have hs3 : (wr.alloc (.cells #[.int .i64 x1, .int .i64 x2] 51)).heap.size = wr.heap.size + 1 := by simp
              replace HO := Lib.hid (HO.out.own2 hb)
              replace HSP := Lib.hid (HSP.out.below (hb.mono hN))
              replace HB := Lib.hid (HB.out.trans (hb.mono HB.out.size))
              have hg1' := (hb.cell (p := ⟨og, an * 2 + 1, none⟩) hogl).trans hg1
              have hgf' := (hb.frozen (p := ⟨og, an * 2 + 1, none⟩) hogl).trans hgf
              clear hg1 hgf
              obtain ⟨N3, hN3⟩ : ∃ N3, N3 = wr.heap.size := ⟨_, rfl⟩
              rw [← hN3] at e0 e1 hs3 ⊢
              generalize wr.alloc (.cells #[.int .i64 x1, .int .i64 x2] 51) = W3 at HO HSP HB e0 e1 hs3 hg1' hgf' ⊢
              have hN4 : N2 ≤ W3.heap.size := by omega
              clear hb d0 d1 hs3 hN3
              go_quiet (fail)
              obtain ⟨W4, hW4⟩ : ∃ W4, W4 = W3.drewN nq := ⟨_, rfl⟩
              rw [← hW4]
              replace HO := Lib.hid (show OwnSp W4 N2 (.slice (some ⟨og, 0, none⟩) (an + 1) oc) (A ++ [(l1, l2)]) by rw [hW4]; exact HO.out)
              replace HSP := Lib.hid (show SpAt W4 N2 (some ⟨sb, so, none⟩) D by rw [hW4]; exact HSP.out.below (show Below N2 W3 (W3.drewN nq) from ⟨rfl, rfl, rfl, Nat.le_refl _, fun _ _ => rfl⟩))
              replace HB := Lib.hid (show Below w.heap.size w W4 by rw [hW4]; exact ⟨HB.out.os, HB.out.tape, HB.out.output, HB.out.size, HB.out.block⟩)
              replace e0 : W4.cell? ⟨N3, 0, none⟩ = some (.int .i64 x1) := by rw [hW4]; exact e0
              replace e1 : W4.cell? ⟨N3, 1, none⟩ = some (.int .i64 x2) := by rw [hW4]; exact e1
              replace hN4 : N2 ≤ W4.heap.size := by rw [hW4]; exact hN4
              replace hg1' : W4.cell? ⟨og, an * 2 + 1, none⟩ = some (.int .i64 l2) := by rw [hW4]; exact hg1'
              replace hgf' : W4.frozen? ⟨og, an * 2 + 1, none⟩ = false := by rw [hW4]; exact hgf'
              clear hW4
              go_wp2_with fail
              go_region
              have ho := HO.out.setLast (max l2 x2)
              rw [← HAN.out] at ho
              have hb5 : Below N2 W4 ((W4.setCell ⟨og, an * 2 + 1, none⟩ (.int .i64 (max l2 x2))).drew) := (((Below.refl N2 W4).setCell (p := ⟨og, an * 2 + 1, none⟩) hog _)).drew
              replace HSP := Lib.hid (HSP.out.below hb5)
              replace HB := Lib.hid (HB.out.trans (hb5.mono hN2w))
              have hN5 := Nat.le_trans hN4 hb5.size
              have HO2 := Lib.hid (show OwnSp ((W4.setCell ⟨og, an * 2 + 1, none⟩ (.int .i64 (max l2 x2))).drew) N2 (.slice (some ⟨og, 0, none⟩) (an + 1) oc) (A ++ [(l1, max l2 x2)]) from ho)
              generalize (W4.setCell ⟨og, an * 2 + 1, none⟩ (.int .i64 (max l2 x2))).drew = W5 at HSP HB HO2 hN5 ⊢
              clear ho hb5 e0 e1 hg1' hgf'
              go_wp2_with fail
              go_roundg (gk - 1)
              case measure => omega
              case rel => exact ⟨k + 1, by go_num, by omega, by rw [HFT.out]; exact HO2.out, HSP.out, HB.out, hN5⟩
            · rw [if_neg hx] at HFT
              have hx' : l2 < x1 := by omega
              go_wp2_with fail
              have hb := sgBel wr (.cells #[.int .i64 x1, .int .i64 x2] 51)
              have e0 : (wr.alloc (.cells #[.int .i64 x1, .int .i64 x2] 51)).cell? ⟨wr.heap.size, 0, none⟩ = some (.int .i64 x1) := (At.new (W := wr) (vs := #[.int .i64 x1, .int .i64 x2]) _ rfl rfl).1
              have e1 : (wr.alloc (.cells #[.int .i64 x1, .int .i64 x2] 51)).cell? ⟨wr.heap.size, 1, none⟩ = some (.int .i64 x2) := (At.new (W := wr) (vs := #[.int .i64 x1, .int .i64 x2]) _ rfl rfl).1
              have hs3 : (wr.alloc (.cells #[.int .i64 x1, .int .i64 x2] 51)).heap.size = wr.heap.size + 1 := by simp
              replace HO := Lib.hid (HO.out.own2 hb)
              replace HSP := Lib.hid (HSP.out.below (hb.mono hN))
              replace HB := Lib.hid (HB.out.trans (hb.mono HB.out.size))
              have hg1' := (hb.cell (p := ⟨og, an * 2 + 1, none⟩) hogl).trans hg1
              have hgf' := (hb.frozen (p := ⟨og, an * 2 + 1, none⟩) hogl).trans hgf
              clear hg1 hgf
              obtain ⟨N3, hN3⟩ : ∃ N3, N3 = wr.heap.size := ⟨_, rfl⟩
              rw [← hN3] at e0 e1 hs3 ⊢
              generalize wr.alloc (.cells #[.int .i64 x1, .int .i64 x2] 51) = W3 at HO HSP HB e0 e1 hs3 hg1' hgf' ⊢
              have hN4 : N2 ≤ W3.heap.size := by omega
              clear hb d0 d1 hs3 hN3
              go_quiet (fail)
              obtain ⟨W4, hW4⟩ : ∃ W4, W4 = W3.drewN nq := ⟨_, rfl⟩
              rw [← hW4]
              replace HO := Lib.hid (show OwnSp W4 N2 (.slice (some ⟨og, 0, none⟩) (an + 1) oc) (A ++ [(l1, l2)]) by rw [hW4]; exact HO.out)
              replace HSP := Lib.hid (show SpAt W4 N2 (some ⟨sb, so, none⟩) D by rw [hW4]; exact HSP.out.below (show Below N2 W3 (W3.drewN nq) from ⟨rfl, rfl, rfl, Nat.le_refl _, fun _ _ => rfl⟩))
              replace HB := Lib.hid (show Below w.heap.size w W4 by rw [hW4]; exact ⟨HB.out.os, HB.out.tape, HB.out.output, HB.out.size, HB.out.block⟩)
              replace e0 : W4.cell? ⟨N3, 0, none⟩ = some (.int .i64 x1) := by rw [hW4]; exact e0
              replace e1 : W4.cell? ⟨N3, 1, none⟩ = some (.int .i64 x2) := by rw [hW4]; exact e1
              replace hN4 : N2 ≤ W4.heap.size := by rw [hW4]; exact hN4
              replace hg1' : W4.cell? ⟨og, an * 2 + 1, none⟩ = some (.int .i64 l2) := by rw [hW4]; exact hg1'
              replace hgf' : W4.frozen? ⟨og, an * 2 + 1, none⟩ = false := by rw [hW4]; exact hgf'
              clear hW4
              go_wp2_with (first | (at_builtin; refine wpList_append_span _ rfl _ _ rfl N2 _ _ rfl (HO.out.alloc _) hll W4.heap.size (x1, x2) rfl (by simp) (by simp) (by simp; omega) ?_))
              intro v' w' ho hgr hbl
              have hb' : Below N2 W4 w' := ((Below.refl _ W4).alloc hN4 _).trans (grown_below hgr (by simp; omega) (fun b e => (HO.out.lt b e).1))
              replace HSP := Lib.hid (HSP.out.below hb')
              replace HB := Lib.hid (HB.out.trans (hb'.mono hN2w))
              have HO2 := Lib.hid ho
              have hN5 := Nat.le_trans hN4 hb'.size
              clear ho hgr hbl hb' e0 e1
              go_wp2_with fail
              go_roundg (gk - 1)
              case measure => omega
              case rel => exact ⟨k + 1, by go_num, by omega, by rw [HFT.out, List.append_assoc]; exact HO2.out, HSP.out, HB.out, hN5⟩
        · obtain rfl : k = D.length := by omega
          have HFIN := Lib.hid (mrg_done h0 HOK.out HPW.out HP.out)
          have hO := HO.out
          rw [List.take_length, HFIN.out] at hO
          have HO2 := Lib.hid (hO.mono hN2w)
          clear hO
          go_wp2_with fail
          go_ret
          exact ⟨_, rfl, HO2.out, HB.out⟩
end Go.Proofs.Ytncjeleabpodaaa
