/- Package ranges: canonical, takes, with. -/
import Derived.Test.YtncjeleabpodaaaRgOwn
import Derived.Test.YtncjeleabpodaaaChg
namespace Go.Proofs.Ytncjeleabpodaaa
open Go.RowKit Go.Shelf
def okSp (e : Int) (x : Sp) : Bool := decide (0 ≤ x.1 ∧ e < x.1 ∧ x.1 < x.2 ∧ x.2 ≤ 1099511627776)
theorem set_alloc {w : World} {E : Nat} {u : Value} (v : Value) (o : Obj) (hc : w.cell? ⟨E, 0, none⟩ = some u) (hf : w.frozen? ⟨E, 0, none⟩ = false) :
    ((w.setCell ⟨E, 0, none⟩ v).alloc o).cell? ⟨E, 0, none⟩ = some v ∧ ((w.setCell ⟨E, 0, none⟩ v).alloc o).frozen? ⟨E, 0, none⟩ = false ∧ Chg E w ((w.setCell ⟨E, 0, none⟩ v).alloc o) := by
  have hE : E < w.heap.size := block_lt_of_cell hc
  have hb := (Below.refl (w.setCell ⟨E, 0, none⟩ v).heap.size (w.setCell ⟨E, 0, none⟩ v)).alloc (Nat.le_refl _) o
  have hl : E < (w.setCell ⟨E, 0, none⟩ v).heap.size := by simp [World.setCell]; exact hE
  exact ⟨(hb.cell (p := ⟨E, 0, none⟩) hl).trans (World.cell?_setCell_same _ _ _ hc), (hb.frozen (p := ⟨E, 0, none⟩) hl).trans (by rw [World.frozen?_setCell]; exact hf), ((Chg.refl E w).setCell 0 v).alloc o⟩
set_option maxRecDepth 100000 in
theorem follows_any (w : World) (x : Sp) (E : Nat) (en : Int) (hc : w.cell? ⟨E, 0, none⟩ = some (.int .i64 en)) (hf : w.frozen? ⟨E, 0, none⟩ = false) :
    Calls Try.prog 98 #[.agg #[.int .i64 x.1, .int .i64 x.2], .pointer (some ⟨E, 0, none⟩)] w fun e w' => e = .returned (.bool (okSp en x)) ∧ w'.cell? ⟨E, 0, none⟩ = some (.int .i64 x.2) ∧ w'.frozen? ⟨E, 0, none⟩ = false ∧ Chg E w w' := by
  obtain ⟨x1, x2⟩ := x
  have hE := block_lt_of_cell hc
  have hne : w.heap.size ≠ E := by simp at hE; omega
  have HS := Lib.hid (fun v o => set_alloc (w := w) v o hc hf)
  go_enter Try.func98, Try.ntmps98
  go_wp2_with fail
  · go_ret
    refine ⟨?_, HS.out _ _⟩
    show Ending.returned (Value.bool (decide (x2 ≤ 1099511627776))) = _
    congr 2
    unfold okSp
    apply Bool.eq_iff_iff.2
    rw [decide_eq_true_iff, decide_eq_true_iff]
    exact ⟨fun h => ⟨by assumption, by assumption, by assumption, h⟩, fun h => h.2.2.2⟩
  all_goals
    go_ret
    refine ⟨?_, HS.out _ _⟩
    show Ending.returned (Value.bool false) = _
    congr 2
    unfold okSp
    rw [eq_comm, decide_eq_false_iff_not]
    dsimp only
    omega
theorem canonF_drop {L : List Sp} {k : Nat} (h : k < L.length) (e : Int) : canonF e (L.drop k) = (okSp e L[k] && canonF L[k].2 (L.drop (k + 1))) := by
  rw [List.drop_eq_getElem_cons h]; rfl
set_option maxRecDepth 100000 in
theorem canonical_any (w : World) (n₀ : Nat) (a : Option Addr) (cap : Nat) (L : List Sp) (hc : SpAt w n₀ a L) (hn : n₀ ≤ w.heap.size) :
    Calls Try.prog 62 #[.slice a L.length cap] w fun e w' => e = .returned (.bool (canonB L)) ∧ Below w.heap.size w w' := by
  have hsm := hc.small
  go_enter Try.func62, Try.ntmps62
  go_wp2_with fail
  go_loopw [10] (fun p wr => ∃ (k : Nat) (e : Int), k ≤ L.length ∧ p = .int .i64 k ∧ wr.cell? ⟨w.heap.size, 0, none⟩ = some (.int .i64 e) ∧ wr.frozen? ⟨w.heap.size, 0, none⟩ = false ∧ Below w.heap.size w wr ∧ canonB L = canonF e (L.drop k)) (fun p _ => L.length - (intOf p).toNat)
  case atStart =>
    refine ⟨0, -1, Nat.zero_le _, rfl, ?_, ?_, (Below.refl _ w).alloc (Nat.le_refl _) _, rfl⟩
    · simp
    · simp
  case round =>
    obtain ⟨k, e, hk, rfl, hce, hfe, hb, hcan⟩ := hrel
    have hs := hc.below (hb.mono hn)
    have HC := Lib.hid hc
    clear hc
    by_cases hlt : k < L.length
    · obtain ⟨b, off, rfl, hbb, hcs⟩ := hs.cells (by omega)
      obtain ⟨c0, c1⟩ := hcs k hlt
      have HB := Lib.hid hb
      have HCAN := Lib.hid (hcan.trans (canonF_drop hlt e))
      have hlt2 : (k : Int) < (L.length : Int) := by omega
      have hEl : w.heap.size < wr.heap.size := block_lt_of_cell hce
      have hal := Lib.hid (fun o => (Below.refl wr.heap.size wr).alloc (Nat.le_refl _) o)
      have HCE := Lib.hid hce
      have HFE := Lib.hid hfe
      clear hcs hs hb hcan hce hfe
      go_wp2_with fail
      refine (follows_any _ L[k] w.heap.size e (((hal.out _).cell (p := ⟨w.heap.size, 0, none⟩) hEl).trans HCE.out) (((hal.out _).frozen (p := ⟨w.heap.size, 0, none⟩) hEl).trans HFE.out)).mono ?_
      rintro e2 w2 ⟨rfl, hc2, hf2, hg2⟩
      have hb2 : Below w.heap.size w w2 := (HB.out.trans ((hal.out _).mono HB.out.size)).trans (hg2.below (Nat.le_refl _) (by simp; omega))
      have HB2 := Lib.hid hb2
      have HC2 := Lib.hid hc2
      have HF2 := Lib.hid hf2
      clear HB hal HCE HFE c0 c1 hg2 hb2 hc2 hf2
      cases hok : okSp e L[k] with
      | true =>
        go_wp2_with fail
        go_roundw
        case rel => exact ⟨k + 1, L[k].2, by omega, by go_num, HC2.out, HF2.out, HB2.out, by rw [HCAN.out, hok]; rfl⟩
        case measure => simp [intOf]; omega
      | false =>
        go_wp2_with fail
        go_ret
        exact ⟨by rw [HCAN.out, hok]; rfl, HB2.out⟩
    · obtain rfl : k = L.length := by omega
      have HB2 := Lib.hid hb
      have HCAN := Lib.hid hcan
      clear hb hcan hs
      go_wp2_with fail
      go_ret
      refine ⟨?_, HB2.out⟩
      rw [HCAN.out, List.drop_length]
      rfl
theorem of_any (w : World) (v : Value) (a : Option Addr) (n cap : Nat) (hv : v = .slice a n cap) : Calls Try.prog 61 #[v] w fun e w' => e = .returned (.agg #[v]) ∧ w' = w.alloc (.cells #[v] 101) := by
  subst hv
  go_enter Try.func61, Try.ntmps61
  go_wp2
  refine bodyPost_ret (v := .agg #[.slice a n cap]) ?_ rfl ⟨rfl, rfl⟩
  simp [results, Try.results61, go_sem]
theorem field_set (a : Option Addr) (n cap : Nat) (W : World) : Sem.run Try.prog (Instr.field 101 (.agg #[.slice a n cap]) 0) W = .ok (.slice a n cap) W := by kernel_rfl
set_option maxRecDepth 100000 in
theorem valid_any (w : World) (n₀ : Nat) (a : Option Addr) (cap : Nat) (L : List Sp) (hc : SpAt w n₀ a L) (hn : n₀ ≤ w.heap.size) :
    Calls Try.prog 26 #[.slice a L.length cap] w fun e w' => e = .returned (.bool (canonB L)) ∧ Below w.heap.size w w' := by
  have hb := (Below.refl w.heap.size w).alloc (Nat.le_refl _) (.cells #[.slice a L.length cap] 101)
  have HB := Lib.hid hb
  have HC := Lib.hid (canonical_any _ n₀ a cap L (hc.below (hb.mono hn)) (by have := hb.size; omega))
  clear hc hb
  go_enter Try.func26, Try.ntmps26
  go_wp2_with fail
  refine (of_any _ _ _ _ _ rfl).mono ?_
  rintro e w1 ⟨rfl, rfl⟩
  have hfl := field_set a L.length cap (w.alloc (.cells #[.slice a L.length cap] 101))
  go_wp2_with fail
  refine HC.out.mono ?_
  rintro e w2 ⟨rfl, hb2⟩
  have HB2 := Lib.hid hb2
  clear hb2
  go_wp2_with fail
  go_ret
  exact ⟨rfl, HB.out.trans (HB2.out.mono HB.out.size)⟩
set_option maxRecDepth 100000 in
theorem takes_any (w : World) (n₀ : Nat) (a : Option Addr) (cap : Nat) (L : List Sp) (s : Sp) (hc : SpAt w n₀ a L) (hn : n₀ ≤ w.heap.size) :
    Calls Try.prog 63 #[.agg #[.slice a L.length cap], .agg #[.int .i64 s.1, .int .i64 s.2]] w fun e w' => e = .returned (.bool (takesB L s)) ∧ Below w.heap.size w w' := by
  obtain ⟨s1, s2⟩ := s
  have hb := ((Below.refl w.heap.size w).alloc (Nat.le_refl _) (.cells #[.slice a L.length cap] 101)).alloc (by simp) (.cells #[.int .i64 s1, .int .i64 s2] 51)
  have HB := Lib.hid hb
  have HC := Lib.hid (canonical_any _ n₀ a cap L (hc.below (hb.mono hn)) (by have := hb.size; omega))
  clear hc hb
  go_enter Try.func63, Try.ntmps63
  go_wp2_with fail
  refine HC.out.mono ?_
  rintro e w2 ⟨rfl, hb2⟩
  have c0 := hb2.cell (p := ⟨w.heap.size + 1, 0, none⟩) (by simp)
  have c1 := hb2.cell (p := ⟨w.heap.size + 1, 1, none⟩) (by simp)
  have HB2 := Lib.hid (HB.out.trans (hb2.mono HB.out.size))
  have hsz := hb2.size
  clear hb2 HC
  cases hcan : canonB L with
  | true =>
    simp at c0 c1 hsz
    go_wp2_with fail
    refine (valid_any (w2.alloc _) (w2.heap.size + 1) _ _ [(s1, s2)] ⟨by simp, fun _ => ⟨w2.heap.size, 0, rfl, by omega, fun i hi => ?_⟩⟩ (by simp)).mono ?_
    · obtain rfl : i = 0 := by simpa using hi
      simp
    · rintro e w3 ⟨rfl, hb3⟩
      have HB3 := Lib.hid hb3
      clear hb3
      go_wp2_with fail
      go_ret
      refine ⟨by unfold takesB; rw [hcan]; rfl, HB2.out.trans ?_⟩
      exact ((Below.refl w.heap.size w2).alloc (by omega) _).trans (HB3.out.mono (by simp; omega))
  | false =>
    go_wp2_with fail
    go_ret
    exact ⟨by unfold takesB; rw [hcan]; rfl, HB2.out⟩
theorem withL_take {ps : List Sp} {k : Nat} (h : k < ps.length) : withL (ps.take (k + 1)) = withL (ps.take k) ++ (if ps[k].1 < ps[k].2 then [ps[k]] else []) := by
  unfold withL
  rw [List.take_succ_eq_append_getElem h, List.filter_append]
  congr 1
  by_cases g : ps[k].1 < ps[k].2
  · rw [if_pos g, List.filter_cons_of_pos (by simpa using g)]; rfl
  · rw [if_neg g, List.filter_cons_of_neg (by simpa using g)]; rfl
theorem withL_le (ps : List Sp) (k : Nat) : (withL (ps.take k)).length ≤ ps.length := by
  unfold withL
  exact Nat.le_trans (List.length_filter_le ..) (by rw [List.length_take]; omega)
set_option maxRecDepth 100000 in
theorem with_any (w : World) (base n₀ : Nat) (v : Value) (L : List Sp) (a : Option Addr) (cap : Nat) (ps : List Sp) (hv : OwnSp w base v L) (hL : L.length ≤ 2199023255552) (hbase : base ≤ w.heap.size)
    (hc : SpAt w n₀ a ps) (hn : n₀ ≤ w.heap.size) (hne : 0 < ps.length → ∀ ad, a = some ad → v.ownBlock ≠ some ad.block) :
    Calls Try.prog 65 #[v, .slice a ps.length cap] w fun e w' => ∃ v', e = .returned v' ∧ OwnSp w' base v' (L ++ withL ps) ∧ w.grownBy w' v.ownBlock ∧ (v'.ownBlock = v.ownBlock ∨ ∃ k, v'.ownBlock = some k ∧ w.heap.size ≤ k) := by
  have hsm := hc.small
  obtain ⟨va, vc, rfl, -⟩ := hv.val
  go_enter Try.func65, Try.ntmps65
  go_wp2_with fail
  go_loopw [0, 9] (fun u p wr => ∃ (k : Nat), k ≤ ps.length ∧ p = .int .i64 k ∧ OwnSp wr base u (L ++ withL (ps.take k)) ∧ w.grownBy wr (Value.slice va L.length vc).ownBlock ∧ (u.ownBlock = (Value.slice va L.length vc).ownBlock ∨ ∃ j, u.ownBlock = some j ∧ w.heap.size ≤ j)) (fun _ p _ => ps.length - (intOf p).toNat)
  case atStart =>
    exact ⟨0, Nat.zero_le _, rfl, by simpa [withL] using hv, grown_refl _ _, .inl rfl⟩
  case round =>
    clear hv
    obtain ⟨k, hk, rfl, hown, hgr, hbl⟩ := hrel
    have hs := hc.grown hgr hn hne
    have HC := Lib.hid hc
    have hgz := hgr.size
    have hbase2 : base ≤ wr.heap.size := by omega
    clear hc
    by_cases hlt : k < ps.length
    · obtain ⟨b, off, rfl, hbb, hcs⟩ := hs.cells (by omega)
      obtain ⟨c0, c1⟩ := hcs k hlt
      have HO := Lib.hid hown
      have HG := Lib.hid hgr
      have HBL := Lib.hid hbl
      have HN := Lib.hid hne
      have hlt2 : (k : Int) < (ps.length : Int) := by omega
      have HWL := Lib.hid (withL_take hlt)
      have hll := withL_le ps k
      have hll2 : (L ++ withL (ps.take k)).length ≤ 4398046511104 := by rw [List.length_append]; omega
      clear hcs hs hown hgr hbl hne
      by_cases hx : ps[k].1 < ps[k].2
      · go_wp2_with (first | (at_builtin; refine wpList_append_span _ rfl _ _ rfl base _ _ rfl ((HO.out.alloc _).alloc _) hll2 (wr.heap.size + 1) ps[k] rfl (by simp) (by simp) (by simp; omega) ?_))
        intro v' w' ho hg hb
        have hg2 : wr.grownBy w' u0.ownBlock := grown_trans (grown_trans (World.grownBy_alloc wr _ _) (World.grownBy_alloc _ _ _) (.inl rfl)) hg (.inl rfl)
        have R : OwnSp w' base v' (L ++ withL (ps.take (k + 1))) ∧ w.grownBy w' (Value.slice va L.length vc).ownBlock ∧ (v'.ownBlock = (Value.slice va L.length vc).ownBlock ∨ ∃ j, v'.ownBlock = some j ∧ w.heap.size ≤ j) := by
          refine ⟨?_, ?_, ?_⟩
          · rw [HWL.out, if_pos hx]; exact ho
          · refine grown_trans HG.out hg2 ?_
            rcases HBL.out with h | ⟨j, h, hj⟩
            · exact .inl h
            · exact .inr (fun i e => by rw [h] at e; cases e; exact hj)
          · rcases hb with h | ⟨j, h, hj⟩
            · rw [h]; exact HBL.out
            · exact .inr ⟨j, h, by omega⟩
        have HR := Lib.hid R
        clear R ho hg hb hg2
        go_wp2_with fail
        go_roundw
        case rel => exact ⟨k + 1, by omega, by go_num, HR.out⟩
        case measure => simp [intOf]; omega
      · have hx2 : ps[k].2 ≤ ps[k].1 := by omega
        go_wp2_with fail
        go_roundw
        case rel =>
          refine ⟨k + 1, by omega, by go_num, ?_, grown_trans HG.out (World.grownBy_alloc wr _ _) (.inl rfl), HBL.out⟩
          rw [HWL.out, if_neg hx, List.append_nil]
          exact HO.out.alloc _
        case measure => simp [intOf]; omega
    · obtain rfl : k = ps.length := by omega
      have HO := Lib.hid hown
      have HG := Lib.hid hgr
      have HBL := Lib.hid hbl
      clear hown hgr hbl hs hne
      go_wp2_with fail
      go_ret
      refine ⟨_, rfl, ?_, HG.out, HBL.out⟩
      have := HO.out
      rw [List.take_length] at this
      exact this
end Go.Proofs.Ytncjeleabpodaaa
