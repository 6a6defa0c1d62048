/- scoreboard.Acked, the method. -/
import Derived.Test.YtncjeleabpodaaaScAck
namespace Go.Proofs.Ytncjeleabpodaaa
open Go.RowKit Go.Shelf
set_option maxHeartbeats 1000000 in
theorem unless_acked (T C L B lb : Nat) (s : Sc) (una : Int) (la : Option Addr) (lc : Nat) (ls : List Sp) (w : World) (ok : s.Ok) (cT : w.cell? ⟨T, 0, none⟩ = some (.int .i64 una)) (cC : w.cell? ⟨C, 0, none⟩ = some (.pointer (some ⟨B, 0, none⟩))) (cL : w.cell? ⟨L, 0, none⟩ = some (.slice la ls.length lc))
    (ne : T ≠ B ∧ C ≠ B ∧ L ≠ B) (hs : ScAt B lb s w) (hl : InL B la ls w) (hlen : (s.sk ++ ls).length ≤ 1099511627776) :
    Calls Try.prog 74 #[.pointer (some ⟨B, 0, none⟩), .agg #[.int .i64 0, .int .i64 1], .func (.func 75) #[] #[.pointer (some ⟨T, 0, none⟩), .pointer (some ⟨C, 0, none⟩), .pointer (some ⟨L, 0, none⟩)]] w fun e w' => e = .returned (.agg #[.int .i64 (s.ackN una ls), .int .i64 (s.ackE una ls)]) ∧ ScAt B lb (s.acked una ls) w' ∧ Chg B w w' := by
  have hb := ((Below.refl w.heap.size w).alloc (Nat.le_refl _) (.cells #[.int .i64 0, .int .i64 1] 111)).alloc (by simp) (.cells #[.int .i64 0, .int .i64 0] 111)
  have hc := Chg.of_below (B := B) hb
  have hlt := hs.lt
  have a0 : At (w.heap.size + 1) 0 (.int .i64 0) ((w.alloc (.cells #[.int .i64 0, .int .i64 1] 111)).alloc (.cells #[.int .i64 0, .int .i64 0] 111)) := At.new (W := w.alloc (.cells #[.int .i64 0, .int .i64 1] 111)) (vs := #[.int .i64 0, .int .i64 0]) _ (by simp) rfl
  have a1 : At (w.heap.size + 1) 1 (.int .i64 0) ((w.alloc (.cells #[.int .i64 0, .int .i64 1] 111)).alloc (.cells #[.int .i64 0, .int .i64 0] 111)) := At.new (W := w.alloc (.cells #[.int .i64 0, .int .i64 1] 111)) (vs := #[.int .i64 0, .int .i64 0]) _ (by simp) rfl
  have HU := Lib.hid (acked1_any T C L B lb s una la lc ls ((w.alloc (.cells #[.int .i64 0, .int .i64 1] 111)).alloc (.cells #[.int .i64 0, .int .i64 0] 111)) ok (cell_chg cT hc ne.1) (cell_chg cC hc ne.2.1) (cell_chg cL hc ne.2.2) ne (hs.below hb) (hl.chg hc) hlen)
  have HC := Lib.hid hc
  have HA := Lib.hid (show At (w.heap.size + 1) 0 (.int .i64 0) _ ∧ At (w.heap.size + 1) 1 (.int .i64 0) _ from ⟨a0, a1⟩)
  have HS0 := Lib.hid hs
  have HB := Lib.hid hb
  have hsz : ((w.alloc (.cells #[.int .i64 0, .int .i64 1] 111)).alloc (.cells #[.int .i64 0, .int .i64 0] 111)).heap.size = w.heap.size + 2 := by simp
  have hlb := hs.2.1.1
  clear ok cT cC cL ne hs hl hlen hb hc a0 a1
  go_enter Try.func74, Try.ntmps74
  go_wp2_with fail
  generalize (w.alloc (.cells #[.int .i64 0, .int .i64 1] 111)).alloc (.cells #[.int .i64 0, .int .i64 0] 111) = w1 at HU HC HA HB hsz ⊢
  refine (HU.out).mono ?_
  rintro e w2 ⟨v, rfl, rfl, hS, hch⟩
  have hne : w.heap.size + 1 ≠ B := by omega
  obtain ⟨c0, f0⟩ := at_chg HA.out.1 hch hne
  obtain ⟨c1, f1⟩ := at_chg HA.out.2 hch hne
  have e0 : At (w.heap.size + 1) 0 (.int .i64 0) w2 := ⟨c0, f0⟩
  have e1 : At (w.heap.size + 1) 1 (.int .i64 0) w2 := ⟨c1, f1⟩
  have hR : Chg (w.heap.size + 1) w2 ((w2.setCell ⟨w.heap.size + 1, 0, none⟩ (.int .i64 (s.ackN una ls))).setCell ⟨w.heap.size + 1, 1, none⟩ (.int .i64 (s.ackE una ls))) := ((Chg.refl _ w2).setCell 0 _).setCell 1 _
  have HS := Lib.hid (show ScAt B lb (s.acked una ls) ((w2.setCell ⟨w.heap.size + 1, 0, none⟩ (.int .i64 (s.ackN una ls))).setCell ⟨w.heap.size + 1, 1, none⟩ (.int .i64 (s.ackE una ls))) by
    rcases hS with ⟨e, hbw⟩ | hS
    · rw [e]
      exact HS0.out.below (((HB.out.trans (hbw.mono HB.out.size)).setCell (p := ⟨w.heap.size + 1, 0, none⟩) (by simp) _).setCell (p := ⟨w.heap.size + 1, 1, none⟩) (by simp) _)
    · exact (hS.other hR (Ne.symm hne) (by omega)).mono (by omega) (by omega) HS0.out.1.1 HS0.out.1.1)
  have HCC := Lib.hid (((HC.out.trans hch).setNew ⟨w.heap.size + 1, 0, none⟩ (by simp) (.int .i64 (s.ackN una ls))).setNew ⟨w.heap.size + 1, 1, none⟩ (by simp) (.int .i64 (s.ackE una ls)))
  have d0 := ((e0.set (.int .i64 (s.ackN una ls))).other ⟨w.heap.size + 1, 1, none⟩ (.int .i64 (s.ackE una ls)) (by intro e; cases e)).1
  have d1 := ((e1.other ⟨w.heap.size + 1, 0, none⟩ (.int .i64 (s.ackN una ls)) (by intro e; cases e)).set (.int .i64 (s.ackE una ls))).1
  clear hS hR hch e0 e1 HU HC HA HB HS0
  go_wp2_with fail
  clear c0 f0 c1 f1
  exact bodyPost_ret (v := .agg #[.int .i64 (s.ackN una ls), .int .i64 (s.ackE una ls)]) (by simp [results, Try.results74, go_sem, d0, d1]) rfl ⟨rfl, HS.out, HCC.out⟩
set_option maxHeartbeats 1000000 in
theorem scacked_any (B lb : Nat) (s : Sc) (una : Int) (la : Option Addr) (lc : Nat) (ls : List Sp) (w : World) (ok : s.Ok) (hs : ScAt B lb s w) (hl : InL B la ls w) (hlen : (s.sk ++ ls).length ≤ 1099511627776) :
    Calls Try.prog 34 #[.pointer (some ⟨B, 0, none⟩), .int .i64 una, .slice la ls.length lc] w fun e w' => e = .returned (.tuple #[.int .i64 (s.ackN una ls), .int .i64 (s.ackE una ls)]) ∧ ScAt B lb (s.acked una ls) w' ∧ Chg B w w' := by
  have hlt := hs.lt
  have hb1 := (Below.refl w.heap.size w).alloc (Nat.le_refl _) (.cells #[.pointer (some ⟨B, 0, none⟩)] 42)
  have hb2 := hb1.alloc (by simp) (.cells #[.int .i64 una] 3)
  have hb := hb2.alloc (by simp; omega) (.cells #[.slice la ls.length lc] 29)
  have a0 := ((show At w.heap.size 0 (.pointer (some ⟨B, 0, none⟩)) _ from At.new (W := w) (vs := #[.pointer (some ⟨B, 0, none⟩)]) 42 rfl rfl).alloc (.cells #[.int .i64 una] 3)).alloc (.cells #[.slice la ls.length lc] 29)
  have a1 := (show At (w.heap.size + 1) 0 (.int .i64 una) _ from At.new (W := w.alloc (.cells #[.pointer (some ⟨B, 0, none⟩)] 42)) (vs := #[.int .i64 una]) 3 (by simp) rfl).alloc (.cells #[.slice la ls.length lc] 29)
  have a2 := (show At (w.heap.size + 2) 0 (.slice la ls.length lc) _ from At.new (W := (w.alloc (.cells #[.pointer (some ⟨B, 0, none⟩)] 42)).alloc (.cells #[.int .i64 una] 3)) (vs := #[.slice la ls.length lc]) 29 (by simp) rfl)
  have hc := Chg.of_below (B := B) hb
  have HU := Lib.hid (unless_acked (w.heap.size + 1) w.heap.size (w.heap.size + 2) B lb s una la lc ls (((w.alloc (.cells #[.pointer (some ⟨B, 0, none⟩)] 42)).alloc (.cells #[.int .i64 una] 3)).alloc (.cells #[.slice la ls.length lc] 29)) ok a1.1 a0.1 a2.1 ⟨by omega, by omega, by omega⟩ (hs.below hb) (hl.chg hc) hlen)
  have HC := Lib.hid hc
  have c0 := a0.1
  clear hb1 hb2 hb a0 a1 a2 hc hs hl ok hlen
  go_enter Try.func34, Try.ntmps34
  go_wp2_with fail
  generalize ((w.alloc (.cells #[.pointer (some ⟨B, 0, none⟩)] 42)).alloc (.cells #[.int .i64 una] 3)).alloc (.cells #[.slice la ls.length lc] 29) = w1 at HU HC c0 ⊢
  refine (HU.out).mono ?_
  rintro e w2 ⟨rfl, hS, hch⟩
  have HCC := Lib.hid (HC.out.trans hch)
  have HS := Lib.hid hS
  clear c0 hS hch HU HC
  go_wp2_with fail
  have d0 := (show At w2.heap.size 0 (.int .i64 (s.ackN una ls)) (w2.alloc (.cells #[.int .i64 (s.ackN una ls), .int .i64 (s.ackE una ls)] 111)) from At.new (W := w2) (vs := #[.int .i64 (s.ackN una ls), .int .i64 (s.ackE una ls)]) 111 rfl rfl).1
  have d1 := (show At w2.heap.size 1 (.int .i64 (s.ackE una ls)) (w2.alloc (.cells #[.int .i64 (s.ackN una ls), .int .i64 (s.ackE una ls)] 111)) from At.new (W := w2) (vs := #[.int .i64 (s.ackN una ls), .int .i64 (s.ackE una ls)]) 111 rfl rfl).1
  have hb3 := sgBel w2 (.cells #[.int .i64 (s.ackN una ls), .int .i64 (s.ackE una ls)] 111)
  replace HS := Lib.hid (HS.out.below hb3)
  replace HCC := Lib.hid (HCC.out.trans (Chg.of_below hb3))
  clear hb3
  generalize (w2.alloc (.cells #[.int .i64 (s.ackN una ls), .int .i64 (s.ackE una ls)] 111)) = w3 at HS HCC d0 d1 ⊢
  refine wp_region_held_drew (S := (fun W : World => W.cell? ⟨w2.heap.size, 0, none⟩ = some (.int .i64 (s.ackN una ls)) ∧ W.cell? ⟨w2.heap.size, 1, none⟩ = some (.int .i64 (s.ackE una ls)))) (by kernel_rfl) (⟨d0, d1⟩) (fun hHeld => ?_)
  refine wpAnyH_take (i := 0) (v := ?_) (by simp only [List.getElem?_toArray, List.getElem?_cons_zero]; rfl) (by kernel_rfl) (by kernel_rfl) (by kernel_rfl) (by exact fun _ _ _ h => h) (Or.inl ⟨by rfl, ?_⟩) (by assumption) ?_
  rotate_left 1
  · intro w hSw; (obtain ⟨z0, z1⟩ := hSw); go_simp; (try with_reducible rfl)
  (try simp only [Act.put, List.setIfInBounds_toArray, List.set_cons_zero, List.set_cons_succ])
  refine wpAnyH_take (i := 1) (v := ?_) (by simp only [List.getElem?_toArray, List.getElem?_cons_succ, List.getElem?_cons_zero]; rfl) (by kernel_rfl) (by kernel_rfl) (by kernel_rfl) (by exact fun _ _ _ h => h) (Or.inl ⟨by rfl, ?_⟩) (by assumption) ?_
  rotate_left 1
  · intro w hSw; (obtain ⟨z0, z1⟩ := hSw); go_simp; (try with_reducible rfl)
  (try simp only [Act.put, List.setIfInBounds_toArray, List.set_cons_zero, List.set_cons_succ])
  refine wpAnyH_take (i := 2) (v := ?_) (by simp only [List.getElem?_toArray, List.getElem?_cons_succ, List.getElem?_cons_zero]; rfl) (by kernel_rfl) (by kernel_rfl) (by kernel_rfl) (by exact fun _ _ _ h => h) (Or.inl ⟨by rfl, ?_⟩) (by assumption) ?_
  rotate_left 1
  · intro w hSw; (obtain ⟨z0, z1⟩ := hSw); go_simp; (try with_reducible rfl)
  (try simp only [Act.put, List.setIfInBounds_toArray, List.set_cons_zero, List.set_cons_succ])
  refine wpAnyH_take (i := 3) (v := ?_) (by simp only [List.getElem?_toArray, List.getElem?_cons_succ, List.getElem?_cons_zero]; rfl) (by kernel_rfl) (by kernel_rfl) (by kernel_rfl) (by exact fun _ _ _ h => h) (Or.inl ⟨by rfl, ?_⟩) (by assumption) ?_
  rotate_left 1
  · intro w hSw; (obtain ⟨z0, z1⟩ := hSw); go_simp; (try with_reducible rfl)
  (try simp only [Act.put, List.setIfInBounds_toArray, List.set_cons_zero, List.set_cons_succ])
  refine wpAnyH_take (i := 4) (v := ?_) (by simp only [List.getElem?_toArray, List.getElem?_cons_succ, List.getElem?_cons_zero]; rfl) (by kernel_rfl) (by kernel_rfl) (by kernel_rfl) (by exact fun _ _ _ h => h) (Or.inl ⟨by rfl, ?_⟩) (by assumption) ?_
  rotate_left 1
  · intro w hSw; (obtain ⟨z0, z1⟩ := hSw); go_simp; (try with_reducible rfl)
  (try simp only [Act.put, List.setIfInBounds_toArray, List.set_cons_zero, List.set_cons_succ])
  refine wpAnyH_take (i := 5) (v := ?_) (by simp only [List.getElem?_toArray, List.getElem?_cons_succ, List.getElem?_cons_zero]; rfl) (by kernel_rfl) (by kernel_rfl) (by kernel_rfl) (by exact fun _ _ _ h => h) (Or.inl ⟨by rfl, ?_⟩) (by assumption) ?_
  rotate_left 1
  · intro w hSw; (obtain ⟨z0, z1⟩ := hSw); go_simp; (try with_reducible rfl)
  (try simp only [Act.put, List.setIfInBounds_toArray, List.set_cons_zero, List.set_cons_succ])
  refine wpAnyH_done (by kernel_rfl) ?_ _
  clear hHeld
  replace HS := Lib.hid (HS.out.below (Below.refl _ _).drew)
  replace HCC := Lib.hid HCC.out.drew
  go_wp2_with fail
  exact bodyPost_ret (v := .tuple #[.int .i64 (s.ackN una ls), .int .i64 (s.ackE una ls)]) (by simp [results, Try.results34, go_sem]) rfl ⟨rfl, HS.out, HCC.out⟩
end Go.Proofs.Ytncjeleabpodaaa
