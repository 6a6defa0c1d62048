/- The reference's above. -/
import Derived.Test.YtncjeleabpodaaaRcAt
import Derived.Test.YtncjeleabpodaaaRgApp
namespace Go.Proofs.Ytncjeleabpodaaa
open Go.RowKit Go.Shelf
theorem OwnSp.ownBel {W W' : World} {base : Nat} {v : Value} {L : List Sp} (h : OwnSp W base v L) (hb : Below W.heap.size W W') : OwnSp W' base v L := by
  refine h.kept (row := none) (grown_of_below hb) ?_
  cases v.ownBlock with
  | none => exact .inl rfl
  | some x => exact .inr (by simp)
set_option maxRecDepth 100000 in
set_option maxHeartbeats 2000000 in
theorem rabove_any (w : World) (n₀ : Nat) (a : Option Addr) (cap : Nat) (L : List Sp) (n : Int) (hc : SpAt w n₀ a L) (hn : n₀ ≤ w.heap.size) :
    Calls Try.prog 110 #[.slice a L.length cap, .int .i64 n] w fun e w' => ∃ v, e = .returned v ∧ OwnSp w' w.heap.size v (abvL n L) ∧ Below w.heap.size w w' := by
  have HS := Lib.hid hc
  clear hc
  have HN := Lib.hid hn
  clear hn
  go_enter Try.func110, Try.ntmps110
  go_wp2_with fail
  go_loopg [5, 6] L.length (fun g ov kv wr => ∃ (k : Nat), kv = .int .i64 (k : Int) ∧ g + k = L.length ∧ OwnSp wr w.heap.size ov (abvL n (L.take k)) ∧ Below w.heap.size w wr)
  case atStart => exact ⟨0, rfl, rfl, OwnSp.nil _ _, Below.refl _ _⟩
  case round =>
    obtain ⟨k, rfl, hg, ho, hB⟩ := hrel
    have HO := Lib.hid ho
    have HB := Lib.hid hB
    clear ho hB
    by_cases hk : k < L.length
    · obtain ⟨b, off, rfl, hbk, hcs⟩ := HS.out.cells (by omega)
      obtain ⟨d0, d1⟩ := hcs k hk
      clear hcs
      have hkr : (k : Int) < (L.length : Int) := by omega
      have hn := HN.out
      replace d0 := cell_bel2 d0 (by omega) HB.out
      replace d1 := cell_bel2 d1 (by omega) HB.out
      have HLN := Lib.hid (show (abvL n (L.take k)).length ≤ 4398046511104 by have := abvL_len n (L.take k); have := HS.out.small; rw [List.length_take] at *; omega)
      have HT := Lib.hid (show abvL n (L.take (k + 1)) = abvL n (L.take k) ++ (if n < L[k].2 then [(max L[k].1 n, L[k].2)] else []) by rw [List.take_succ_eq_append_getElem hk, abvL_snoc])
      generalize L[k] = x at d0 d1 HT
      obtain ⟨x1, x2⟩ := x
      dsimp only at d0 d1 HT
      by_cases hx : n < x2
      · have hK := (show (fun W : World => W.cell? ⟨b, off + k * 2, none⟩ = some (.int .i64 x1) ∧ W.cell? ⟨b, off + k * 2 + 1, none⟩ = some (.int .i64 x2)) wr from ⟨d0, d1⟩)
        go_wp2_with fail
        refine wp_region_held_drew (S := (fun W : World => W.cell? ⟨b, off + k * 2, none⟩ = some (.int .i64 x1) ∧ W.cell? ⟨b, off + k * 2 + 1, none⟩ = some (.int .i64 x2))) (by kernel_rfl) (hK) (fun hHeld => ?_)
        clear hK d0 d1
        replace HB := Lib.hid (HB.out.drew)
        replace HO := Lib.hid (HO.out.ownBel (Below.refl _ wr).drew)
        have hsz := HB.out.size
        generalize wr.drew = w3 at HB HO hHeld hsz ⊢
        refine wpAnyH_take (i := 0) (v := ?_) (by simp only [List.getElem?_toArray, List.getElem?_cons_zero]; rfl) (by kernel_rfl) (by kernel_rfl) (by kernel_rfl) (by exact fun _ _ _ h => h) (Or.inl ⟨by rfl, ?_⟩) (by assumption) ?_
        rotate_left 1
        · intro w hSw; (obtain ⟨q0, q1⟩ := hSw); go_simp; (try with_reducible rfl)
        (try simp only [Act.put, List.setIfInBounds_toArray, List.set_cons_zero, List.set_cons_succ])
        refine wpAnyH_take (i := 1) (v := ?_) (by simp only [List.getElem?_toArray, List.getElem?_cons_succ, List.getElem?_cons_zero]; rfl) (by kernel_rfl) (by kernel_rfl) (by kernel_rfl) (by exact fun _ _ _ h => h) (Or.inl ⟨by rfl, ?_⟩) (by assumption) ?_
        rotate_left 1
        · intro w hSw; (obtain ⟨q0, q1⟩ := hSw); go_simp; (try with_reducible rfl)
        (try simp only [Act.put, List.setIfInBounds_toArray, List.set_cons_zero, List.set_cons_succ])
        refine wpAnyH_take (i := 2) (v := ?_) (by simp only [List.getElem?_toArray, List.getElem?_cons_succ, List.getElem?_cons_zero]; rfl) (by kernel_rfl) (by kernel_rfl) (by kernel_rfl) (by exact fun _ _ _ h => h) (Or.inl ⟨by rfl, ?_⟩) (by assumption) ?_
        rotate_left 1
        · intro w hSw; (obtain ⟨q0, q1⟩ := hSw); go_simp; (try with_reducible rfl)
        (try simp only [Act.put, List.setIfInBounds_toArray, List.set_cons_zero, List.set_cons_succ])
        refine wpAnyH_take (i := 3) (v := ?_) (by simp only [List.getElem?_toArray, List.getElem?_cons_succ, List.getElem?_cons_zero]; rfl) (by kernel_rfl) (by kernel_rfl) (by kernel_rfl) (by exact fun _ _ _ h => h) (Or.inl ⟨by rfl, ?_⟩) (by assumption) ?_
        rotate_left 1
        · intro w hSw; (obtain ⟨q0, q1⟩ := hSw); go_simp; (try with_reducible rfl)
        (try simp only [Act.put, List.setIfInBounds_toArray, List.set_cons_zero, List.set_cons_succ])
        refine wpAnyH_take (i := 4) (v := ?_) (by simp only [List.getElem?_toArray, List.getElem?_cons_succ, List.getElem?_cons_zero]; rfl) (by kernel_rfl) (by kernel_rfl) (by kernel_rfl) (by exact fun _ _ _ h => h) (Or.inl ⟨by rfl, ?_⟩) (by assumption) ?_
        rotate_left 1
        · intro w hSw; (obtain ⟨q0, q1⟩ := hSw); go_simp; (try with_reducible rfl)
        (try simp only [Act.put, List.setIfInBounds_toArray, List.set_cons_zero, List.set_cons_succ])
        refine wpAnyH_take (i := 5) (v := ?_) (by simp only [List.getElem?_toArray, List.getElem?_cons_succ, List.getElem?_cons_zero]; rfl) (by kernel_rfl) (by kernel_rfl) (by kernel_rfl) (by exact fun _ _ _ h => h) (Or.inl ⟨by rfl, ?_⟩) (by assumption) ?_
        rotate_left 1
        · intro w hSw; (obtain ⟨q0, q1⟩ := hSw); go_simp; (try with_reducible rfl)
        (try simp only [Act.put, List.setIfInBounds_toArray, List.set_cons_zero, List.set_cons_succ])
        refine wpAnyH_take (i := 6) (v := ?_) (by simp only [List.getElem?_toArray, List.getElem?_cons_succ, List.getElem?_cons_zero]; rfl) (by kernel_rfl) (by kernel_rfl) (by kernel_rfl) (by exact fun _ _ _ h => h) (Or.inl ⟨by rfl, ?_⟩) (by assumption) ?_
        rotate_left 1
        · intro w hSw; (obtain ⟨q0, q1⟩ := hSw); go_simp; (try with_reducible rfl)
        (try simp only [Act.put, List.setIfInBounds_toArray, List.set_cons_zero, List.set_cons_succ])
        refine wpAnyH_take (i := 7) (v := ?_) (by simp only [List.getElem?_toArray, List.getElem?_cons_succ, List.getElem?_cons_zero]; rfl) (by kernel_rfl) (by kernel_rfl) (by kernel_rfl) (by exact fun _ _ _ h => h) (Or.inl ⟨by rfl, ?_⟩) (by assumption) ?_
        rotate_left 1
        · intro w hSw; (obtain ⟨q0, q1⟩ := hSw); go_simp; (try with_reducible rfl)
        (try simp only [Act.put, List.setIfInBounds_toArray, List.set_cons_zero, List.set_cons_succ])
        refine wpAnyH_take (i := 8) (v := ?_) (by simp only [List.getElem?_toArray, List.getElem?_cons_succ, List.getElem?_cons_zero]; rfl) (by kernel_rfl) (by kernel_rfl) (by kernel_rfl) (by exact fun _ _ _ h => h) (Or.inl ⟨by rfl, ?_⟩) (by assumption) ?_
        rotate_left 1
        · intro w hSw; (obtain ⟨q0, q1⟩ := hSw); go_simp; (try with_reducible rfl)
        (try simp only [Act.put, List.setIfInBounds_toArray, List.set_cons_zero, List.set_cons_succ])
        refine wpAnyH_take (i := 9) (v := ?_) (by simp only [List.getElem?_toArray, List.getElem?_cons_succ, List.getElem?_cons_zero]; rfl) (by kernel_rfl) (by kernel_rfl) (by kernel_rfl) (by exact fun _ _ _ h => h) (Or.inl ⟨by rfl, ?_⟩) (by assumption) ?_
        rotate_left 1
        · intro w hSw; (obtain ⟨q0, q1⟩ := hSw); go_simp; (try with_reducible rfl)
        (try simp only [Act.put, List.setIfInBounds_toArray, List.set_cons_zero, List.set_cons_succ])
        refine wpAnyH_take (i := 10) (v := ?_) (by simp only [List.getElem?_toArray, List.getElem?_cons_succ, List.getElem?_cons_zero]; rfl) (by kernel_rfl) (by kernel_rfl) (by kernel_rfl) (by exact fun _ _ _ h => h) (Or.inl ⟨by rfl, ?_⟩) (by assumption) ?_
        rotate_left 1
        · intro w hSw; (obtain ⟨q0, q1⟩ := hSw); go_simp; (try with_reducible rfl)
        (try simp only [Act.put, List.setIfInBounds_toArray, List.set_cons_zero, List.set_cons_succ])
        refine wpAnyH_take (i := 11) (v := ?_) (by simp only [List.getElem?_toArray, List.getElem?_cons_succ, List.getElem?_cons_zero]; rfl) (by kernel_rfl) (by kernel_rfl) (by kernel_rfl) (by exact fun _ _ _ h => h) (Or.inl ⟨by rfl, ?_⟩) (by assumption) ?_
        rotate_left 1
        · intro w hSw; (obtain ⟨q0, q1⟩ := hSw); go_simp; (try with_reducible rfl)
        (try simp only [Act.put, List.setIfInBounds_toArray, List.set_cons_zero, List.set_cons_succ])
        refine wpAnyH_take (i := 12) (v := ?_) (by simp only [List.getElem?_toArray, List.getElem?_cons_succ, List.getElem?_cons_zero]; rfl) (by kernel_rfl) (by kernel_rfl) (by kernel_rfl) (by exact fun _ _ _ h => h) (Or.inl ⟨by rfl, ?_⟩) (by assumption) ?_
        rotate_left 1
        · intro w hSw; (obtain ⟨q0, q1⟩ := hSw); go_simp; (try with_reducible rfl)
        (try simp only [Act.put, List.setIfInBounds_toArray, List.set_cons_zero, List.set_cons_succ])
        refine wpAnyH_take (i := 13) (v := ?_) (by simp only [List.getElem?_toArray, List.getElem?_cons_succ, List.getElem?_cons_zero]; rfl) (by kernel_rfl) (by kernel_rfl) (by kernel_rfl) (by exact fun _ _ _ h => h) (Or.inl ⟨by rfl, ?_⟩) (by assumption) ?_
        rotate_left 1
        · intro w hSw; (obtain ⟨q0, q1⟩ := hSw); go_simp; (try with_reducible rfl)
        (try simp only [Act.put, List.setIfInBounds_toArray, List.set_cons_zero, List.set_cons_succ])
        obtain ⟨mx, hmx⟩ : ∃ mx, mx = (if x1 < n then n else x1) := ⟨_, rfl⟩
        rw [← hmx]
        have HMX := Lib.hid (show mx = max x1 n by rw [hmx]; split <;> omega)
        clear hmx
        have hb := rcBel w3 (.cells #[.int .i64 mx, .int .i64 x2] 51)
        have hK2 := (show (fun W : World => W.cell? ⟨b, off + k * 2, none⟩ = some (.int .i64 x1) ∧ W.cell? ⟨b, off + k * 2 + 1, none⟩ = some (.int .i64 x2)) (w3.alloc (.cells #[.int .i64 mx, .int .i64 x2] 51)) from ⟨cell_bel2 hHeld.1 (block_lt_of_cell hHeld.1) hb, cell_bel2 hHeld.2 (block_lt_of_cell hHeld.2) hb⟩)
        clear hb
        refine wpAnyH_ready (rs := [14]) (by kernel_rfl) (by simp) ?_
        refine AllReadyH.cons (by simp only [List.getElem?_toArray, List.getElem?_cons_succ, List.getElem?_cons_zero]; rfl) (fun Kq hKq => ?_) AllReadyH.nil
        go_simp
        refine hKq.out _ _ (hK2) (fun hHeld2 => ?_)
        clear hKq Kq hHeld
        (try simp only [Act.put, List.setIfInBounds_toArray, List.set_cons_zero, List.set_cons_succ])
        have hHeld := hHeld2
        clear hHeld2
        have HO2 := Lib.hid (HO.out.alloc (.cells #[.int .i64 mx, .int .i64 x2] 51))
        have HB2 := Lib.hid (HB.out.alloc HB.out.size (.cells #[.int .i64 mx, .int .i64 x2] 51))
        refine wpAnyH_ready (rs := [15]) (by kernel_rfl) (by simp) ?_
        refine AllReadyH.cons (by simp only [List.getElem?_toArray, List.getElem?_cons_succ, List.getElem?_cons_zero]; rfl) (fun Kq hKq => ?_) AllReadyH.nil
        refine step_append_span rfl _ _ rfl w.heap.size _ _ (by rfl) HO2.out HLN.out w3.heap.size (mx, x2) (by rfl) (At.new (W := w3) (i := 0) (v := .int .i64 mx) (vs := #[.int .i64 mx, .int .i64 x2]) 51 rfl rfl).1 (At.new (W := w3) (i := 1) (v := .int .i64 x2) (vs := #[.int .i64 mx, .int .i64 x2]) 51 rfl rfl).1 HB2.out.size ?_
        intro v4 w4 ho4 hg4 hb4
        have HO4 := Lib.hid ho4
        have HB4 := Lib.hid (HB2.out.trans (grown_below hg4 HB2.out.size (fun k e => (HO2.out.lt k e).1)))
        have hne : ∀ C, C < w.heap.size → u5.ownBlock ≠ some C := fun C hC e => by have := (HO2.out.lt C e).1; omega
        have hK4 := (show (fun W : World => W.cell? ⟨b, off + k * 2, none⟩ = some (.int .i64 x1) ∧ W.cell? ⟨b, off + k * 2 + 1, none⟩ = some (.int .i64 x2)) w4 from ⟨cell_grown hg4 hK2.1 (hne b (by omega)), cell_grown hg4 hK2.2 (hne b (by omega))⟩)
        clear ho4 hg4 hb4 hne
        refine hKq.out _ _ (hK4) (fun hHeld2 => ?_)
        clear hKq Kq hHeld
        (try simp only [Act.put, List.setIfInBounds_toArray, List.set_cons_zero, List.set_cons_succ])
        have hHeld := hHeld2
        clear hHeld2
        refine wpAnyH_take (i := 16) (v := ?_) (by simp only [List.getElem?_toArray, List.getElem?_cons_succ, List.getElem?_cons_zero]; rfl) (by kernel_rfl) (by kernel_rfl) (by kernel_rfl) (by exact fun _ _ _ h => h) (Or.inl ⟨by rfl, ?_⟩) (by assumption) ?_
        rotate_left 1
        · intro w hSw; (obtain ⟨q0, q1⟩ := hSw); go_simp; (try with_reducible rfl)
        (try simp only [Act.put, List.setIfInBounds_toArray, List.set_cons_zero, List.set_cons_succ])
        refine wpAnyH_done (by kernel_rfl) ?_ _
        clear hHeld hK4 hK2
        go_wp2_with fail
        go_roundg (gk - 1)
        case measure => omega
        case rel => exact ⟨k + 1, by first | go_num | (have hsm := HS.out.small; have e : wrap64 ((k : Int) + 1) = ((k + 1 : Nat) : Int) := (by unfold wrap64; omega); rw [e]), by omega, by rw [HT.out, if_pos hx, ← HMX.out]; exact HO4.out, HB4.out⟩
      · go_wp2_with fail
        go_roundg (gk - 1)
        case measure => omega
        case rel => exact ⟨k + 1, by first | go_num | (have hsm := HS.out.small; have e : wrap64 ((k : Int) + 1) = ((k + 1 : Nat) : Int) := (by unfold wrap64; omega); rw [e]), by omega, by rw [HT.out, if_neg (show ¬ n < x2 by omega), List.append_nil]; exact HO.out, HB.out⟩
    · go_wp2_with fail
      go_ret
      refine ⟨_, rfl, ?_, HB.out⟩
      obtain rfl : k = L.length := by omega
      have h := HO.out
      rw [List.take_length] at h
      exact h
end Go.Proofs.Ytncjeleabpodaaa
