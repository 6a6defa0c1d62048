/- scoreboard.Retransmitted. -/
import Derived.Test.YtncjeleabpodaaaScAckO
namespace Go.Proofs.Ytncjeleabpodaaa
open Go.RowKit Go.Shelf
theorem canonF_half {e : Int} {L : List Sp} (h : canonF e L = true) (he : e ≤ 1099511627776) : e + 2 * L.length ≤ 1099511627776 := by
  induction L generalizing e with
  | nil => simp; omega
  | cons x l ih =>
    rw [canonF_cons] at h
    have := ih h.2 h.1.2.2.2
    rw [List.length_cons]
    omega
theorem canonB_half {L : List Sp} (h : canonB L = true) : 2 * L.length ≤ 1099511627777 := by
  have := canonF_half (e := -1) h (by omega)
  omega
theorem cell_below {B i : Nat} {v : Value} {w w' : World} (h : w.cell? ⟨B, i, none⟩ = some v) (hb : Below w.heap.size w w') : w'.cell? ⟨B, i, none⟩ = some v :=
  (hb.cell (p := ⟨B, i, none⟩) (block_lt_of_cell h)).trans h
/-- What the closure of Retransmitted sees. -/
structure Er (C X B lb : Nat) (s : Sc) (x1 x2 : Int) (w W : World) : Prop where
  cC : W.cell? ⟨C, 0, none⟩ = some (.pointer (some ⟨B, 0, none⟩))
  x0 : W.cell? ⟨X, 0, none⟩ = some (.int .i64 x1)
  x1 : W.cell? ⟨X, 1, none⟩ = some (.int .i64 x2)
  hs : ScAt B lb s W
  chg : Chg B w W
  ne : C ≠ B ∧ X ≠ B
theorem Er.below {C X B lb : Nat} {s : Sc} {x1 x2 : Int} {w W W' : World} (h : Er C X B lb s x1 x2 w W) (hb : Below W.heap.size W W') : Er C X B lb s x1 x2 w W' :=
  ⟨cell_below h.cC hb, cell_below h.x0 hb, cell_below h.x1 hb, h.hs.below hb, h.chg.trans (Chg.of_below hb), h.ne⟩
theorem Er.drew {C X B lb : Nat} {s : Sc} {x1 x2 : Int} {w W : World} (h : Er C X B lb s x1 x2 w W) : Er C X B lb s x1 x2 w W.drew := h.below (Below.refl _ _).drew
set_option maxRecDepth 100000 in
set_option maxHeartbeats 4000000 in
theorem retransmitted1_any (C X B lb : Nat) (s : Sc) (x1 x2 : Int) (w : World) (ok : s.Ok) (cC : w.cell? ⟨C, 0, none⟩ = some (.pointer (some ⟨B, 0, none⟩))) (h1 : w.cell? ⟨X, 0, none⟩ = some (.int .i64 x1)) (h2 : w.cell? ⟨X, 1, none⟩ = some (.int .i64 x2))
    (ne : C ≠ B ∧ X ≠ B) (hs : ScAt B lb s w) :
    Calls Try.prog 71 #[.pointer (some ⟨C, 0, none⟩), .pointer (some ⟨X, 0, none⟩)] w fun e w' => ∃ v, e = .returned v ∧ v = .int .i64 (s.retE (x1, x2)) ∧ ScAt B lb (s.ret (x1, x2)) w' ∧ Chg B w w' := by
  have HOK := Lib.hid ok
  have HE := Lib.hid (⟨cC, h1, h2, hs, Chg.refl B w, ne⟩ : Er C X B lb s x1 x2 w w)
  clear ok cC h1 h2 ne hs
  go_enter Try.func71, Try.ntmps71
  have cC := HE.out.cC
  have cX := HE.out.x0
  have cY := HE.out.x1
  go_wp2_with fail
  refine (scwithin_any B lb s (x1, x2) _ HE.out.hs).mono ?_
  rintro e w2 ⟨rfl, hb⟩
  replace HE := Lib.hid (HE.out.below hb)
  clear hb cC cX cY
  cases hib : s.inB (x1, x2) with
  | false =>
    go_wp2_with fail
    go_ret
    exact ⟨_, rfl, by unfold Sc.retE; rw [if_neg (by rw [hib]; exact Bool.noConfusion)]; rfl, by unfold Sc.ret; rw [if_neg (by rw [hib]; exact Bool.noConfusion)]; exact HE.out.hs, HE.out.chg⟩
  | true =>
    have HIB := Lib.hid hib
    clear hib
    have HSP := Lib.hid (HOK.out.ret_spec HIB.out)
    go_wp2_with fail
    obtain ⟨sa, sc, ga, gc, ⟨k0, -⟩, -, -, ⟨k3, -⟩, -, -, -⟩ := HE.out.hs.ats
    refine wp_region_held_drew (S := (fun W : World => W.cell? ⟨C, 0, none⟩ = some (.pointer (some ⟨B, 0, none⟩)) ∧ W.cell? ⟨X, 0, none⟩ = some (.int .i64 x1) ∧ W.cell? ⟨X, 1, none⟩ = some (.int .i64 x2) ∧ W.cell? ⟨B, 0, none⟩ = some (.int .i64 s.una) ∧ W.cell? ⟨B, 3, none⟩ = some (.slice sa s.sk.length sc))) (by kernel_rfl) (⟨HE.out.cC, HE.out.x0, HE.out.x1, k0, k3⟩) (fun hHeld => ?_)
    clear k0 k3
    replace HE := Lib.hid HE.out.drew
    obtain ⟨y0, hy0⟩ : ∃ y0, y0 = w2.drew := ⟨_, rfl⟩
    rw [← hy0] at HE hHeld ⊢
    clear hy0
    obtain ⟨sa9, sc9, ga, gc, -, -, -, ⟨k3, -⟩, -, ls3, -⟩ := HE.out.hs.ats
    obtain ⟨rfl, rfl⟩ : sa = sa9 ∧ sc = sc9 := by have := hHeld.2.2.2.2.symm.trans k3; injection this with e; injection e with e1 e2 e3; exact ⟨e1, e3⟩
    clear k3
    refine wpAnyH_take (i := 0) (v := ?_) (by simp only [List.getElem?_toArray, List.getElem?_cons_zero]; rfl) (by kernel_rfl) (by kernel_rfl) (by kernel_rfl) (by exact fun _ _ _ h => h) (Or.inl ⟨by rfl, ?_⟩) (by assumption) ?_
    rotate_left 1
    · intro w hSw; (obtain ⟨z0, z1, z2, z3, z4⟩ := hSw); go_simp; (try with_reducible rfl)
    (try simp only [Act.put, List.setIfInBounds_toArray, List.set_cons_zero, List.set_cons_succ])
    refine wpAnyH_take (i := 4) (v := ?_) (by simp only [List.getElem?_toArray, List.getElem?_cons_succ, List.getElem?_cons_zero]; rfl) (by kernel_rfl) (by kernel_rfl) (by kernel_rfl) (by exact fun _ _ _ h => h) (Or.inl ⟨by rfl, ?_⟩) (by assumption) ?_
    rotate_left 1
    · intro w hSw; (obtain ⟨z0, z1, z2, z3, z4⟩ := hSw); go_simp; (try with_reducible rfl)
    (try simp only [Act.put, List.setIfInBounds_toArray, List.set_cons_zero, List.set_cons_succ])
    refine wpAnyH_take (i := 8) (v := ?_) (by simp only [List.getElem?_toArray, List.getElem?_cons_succ, List.getElem?_cons_zero]; rfl) (by kernel_rfl) (by kernel_rfl) (by kernel_rfl) (by exact fun _ _ _ h => h) (Or.inl ⟨by rfl, ?_⟩) (by assumption) ?_
    rotate_left 1
    · intro w hSw; (obtain ⟨z0, z1, z2, z3, z4⟩ := hSw); go_simp; (try with_reducible rfl)
    (try simp only [Act.put, List.setIfInBounds_toArray, List.set_cons_zero, List.set_cons_succ])
    refine wpAnyH_take (i := 1) (v := ?_) (by simp only [List.getElem?_toArray, List.getElem?_cons_succ, List.getElem?_cons_zero]; rfl) (by kernel_rfl) (by kernel_rfl) (by kernel_rfl) (by exact fun _ _ _ h => h) (Or.inl ⟨by rfl, ?_⟩) (by assumption) ?_
    rotate_left 1
    · intro w hSw; (obtain ⟨z0, z1, z2, z3, z4⟩ := hSw); go_simp; (try with_reducible rfl)
    (try simp only [Act.put, List.setIfInBounds_toArray, List.set_cons_zero, List.set_cons_succ])
    refine wpAnyH_take (i := 9) (v := ?_) (by simp only [List.getElem?_toArray, List.getElem?_cons_succ, List.getElem?_cons_zero]; rfl) (by kernel_rfl) (by kernel_rfl) (by kernel_rfl) (by exact fun _ _ _ h => h) (Or.inl ⟨by rfl, ?_⟩) (by assumption) ?_
    rotate_left 1
    · intro w hSw; (obtain ⟨z0, z1, z2, z3, z4⟩ := hSw); go_simp; (try with_reducible rfl)
    (try simp only [Act.put, List.setIfInBounds_toArray, List.set_cons_zero, List.set_cons_succ])
    refine wpAnyH_take (i := 2) (v := ?_) (by simp only [List.getElem?_toArray, List.getElem?_cons_succ, List.getElem?_cons_zero]; rfl) (by kernel_rfl) (by kernel_rfl) (by kernel_rfl) (by exact fun _ _ _ h => h) (Or.inl ⟨by rfl, ?_⟩) (by assumption) ?_
    rotate_left 1
    · intro w hSw; (obtain ⟨z0, z1, z2, z3, z4⟩ := hSw); go_simp; (try with_reducible rfl)
    (try simp only [Act.put, List.setIfInBounds_toArray, List.set_cons_zero, List.set_cons_succ])
    refine wpAnyH_take (i := 10) (v := ?_) (by simp only [List.getElem?_toArray, List.getElem?_cons_succ, List.getElem?_cons_zero]; rfl) (by kernel_rfl) (by kernel_rfl) (by kernel_rfl) (by exact fun _ _ _ h => h) (Or.inl ⟨by rfl, ?_⟩) (by assumption) ?_
    rotate_left 1
    · intro w hSw; (obtain ⟨z0, z1, z2, z3, z4⟩ := hSw); go_simp; (try with_reducible rfl)
    (try simp only [Act.put, List.setIfInBounds_toArray, List.set_cons_zero, List.set_cons_succ])
    refine wpAnyH_take (i := 3) (v := ?_) (by simp only [List.getElem?_toArray, List.getElem?_cons_succ, List.getElem?_cons_zero]; rfl) (by kernel_rfl) (by kernel_rfl) (by kernel_rfl) (by exact fun _ _ _ h => h) (Or.inl ⟨by rfl, ?_⟩) (by assumption) ?_
    rotate_left 1
    · intro w hSw; (obtain ⟨z0, z1, z2, z3, z4⟩ := hSw); go_simp; (try with_reducible rfl)
    (try simp only [Act.put, List.setIfInBounds_toArray, List.set_cons_zero, List.set_cons_succ])
    refine wpAnyH_take (i := 11) (v := ?_) (by simp only [List.getElem?_toArray, List.getElem?_cons_succ, List.getElem?_cons_zero]; rfl) (by kernel_rfl) (by kernel_rfl) (by kernel_rfl) (by exact fun _ _ _ h => h) (Or.inl ⟨by rfl, ?_⟩) (by assumption) ?_
    rotate_left 1
    · intro w hSw; (obtain ⟨z0, z1, z2, z3, z4⟩ := hSw); go_simp; (try with_reducible rfl)
    (try simp only [Act.put, List.setIfInBounds_toArray, List.set_cons_zero, List.set_cons_succ])
    refine wpAnyH_ready (rs := [5]) (by kernel_rfl) (by simp) ?_
    refine AllReadyH.cons (by simp only [List.getElem?_toArray, List.getElem?_cons_succ, List.getElem?_cons_zero]; rfl) (fun Kq hKq => ?_) AllReadyH.nil
    go_simp
    have hb := sgBel y0 (.cells #[.int .i64 x1, .int .i64 x2] 51)
    have hx := (show SpAt (y0.alloc (.cells #[.int .i64 x1, .int .i64 x2] 51)) (y0.alloc (.cells #[.int .i64 x1, .int .i64 x2] 51)).heap.size (some ⟨y0.heap.size, 0, none⟩) [(x1, x2)] from ⟨by simp, fun _ => ⟨y0.heap.size, 0, rfl, by simp, fun i hi => by
      obtain rfl : i = 0 := by simp at hi; omega
      exact ⟨(At.new (W := y0) (vs := #[.int .i64 x1, .int .i64 x2]) _ rfl rfl).1, (At.new (W := y0) (vs := #[.int .i64 x1, .int .i64 x2]) _ rfl rfl).1⟩⟩⟩)
    have hK := (show (y0.alloc (.cells #[.int .i64 x1, .int .i64 x2] 51)).cell? ⟨C, 0, none⟩ = some (.pointer (some ⟨B, 0, none⟩)) ∧ (y0.alloc (.cells #[.int .i64 x1, .int .i64 x2] 51)).cell? ⟨X, 0, none⟩ = some (.int .i64 x1) ∧ (y0.alloc (.cells #[.int .i64 x1, .int .i64 x2] 51)).cell? ⟨X, 1, none⟩ = some (.int .i64 x2) ∧ (y0.alloc (.cells #[.int .i64 x1, .int .i64 x2] 51)).cell? ⟨B, 0, none⟩ = some (.int .i64 s.una) ∧ (y0.alloc (.cells #[.int .i64 x1, .int .i64 x2] 51)).cell? ⟨B, 3, none⟩ = some (.slice sa s.sk.length sc) from ⟨cell_below hHeld.1 hb, cell_below hHeld.2.1 hb, cell_below hHeld.2.2.1 hb, cell_below hHeld.2.2.2.1 hb, cell_below hHeld.2.2.2.2 hb⟩)
    replace HE := Lib.hid (HE.out.below hb)
    replace ls3 := ls3.below hb
    have hsz1 := hb.size
    generalize hX2 : y0.heap.size = N0 at hx hsz1 ⊢
    generalize y0.alloc (.cells #[.int .i64 x1, .int .i64 x2] 51) = y1 at HE hx hK ls3 hsz1 ⊢
    clear hb hX2
    refine hKq.out _ _ (hK) (fun hHeld2 => ?_)
    clear hKq Kq hHeld
    (try simp only [Act.put, List.setIfInBounds_toArray, List.set_cons_zero, List.set_cons_succ])
    have hHeld := hHeld2
    clear hHeld2
    clear hK
    refine wpAnyH_ready (rs := [6]) (by kernel_rfl) (by simp) ?_
    refine AllReadyH.cons (by simp only [List.getElem?_toArray, List.getElem?_cons_succ, List.getElem?_cons_zero]; rfl) (fun Kq hKq => ?_) AllReadyH.nil
    go_simp
    have hb := sgBel y1 (.cells #[.slice (some ⟨N0, 0, none⟩) 1 1] 29)
    have hlat : ListsAt y1.heap.size [(some ⟨N0, 0, none⟩, 1, [(x1, x2)])] (y1.alloc (.cells #[.slice (some ⟨N0, 0, none⟩) 1 1] 29)) := ⟨by simp, fun i hi => by
      obtain rfl : i = 0 := by simp at hi; omega
      exact ⟨(At.new (W := y1) (vs := #[.slice (some ⟨N0, 0, none⟩) 1 1]) _ rfl rfl).1, (hx.below hb).mono hb.size⟩⟩
    have hK := (show (y1.alloc (.cells #[.slice (some ⟨N0, 0, none⟩) 1 1] 29)).cell? ⟨C, 0, none⟩ = some (.pointer (some ⟨B, 0, none⟩)) ∧ (y1.alloc (.cells #[.slice (some ⟨N0, 0, none⟩) 1 1] 29)).cell? ⟨X, 0, none⟩ = some (.int .i64 x1) ∧ (y1.alloc (.cells #[.slice (some ⟨N0, 0, none⟩) 1 1] 29)).cell? ⟨X, 1, none⟩ = some (.int .i64 x2) ∧ (y1.alloc (.cells #[.slice (some ⟨N0, 0, none⟩) 1 1] 29)).cell? ⟨B, 0, none⟩ = some (.int .i64 s.una) ∧ (y1.alloc (.cells #[.slice (some ⟨N0, 0, none⟩) 1 1] 29)).cell? ⟨B, 3, none⟩ = some (.slice sa s.sk.length sc) from ⟨cell_below hHeld.1 hb, cell_below hHeld.2.1 hb, cell_below hHeld.2.2.1 hb, cell_below hHeld.2.2.2.1 hb, cell_below hHeld.2.2.2.2 hb⟩)
    replace HE := Lib.hid (HE.out.below hb)
    replace ls3 := ls3.below hb
    generalize y1.alloc (.cells #[.slice (some ⟨N0, 0, none⟩) 1 1] 29) = y2 at HE hlat hK ls3 ⊢
    have HLT := Lib.hid hlat
    clear hb hx hlat
    refine hKq.out _ _ (hK) (fun hHeld2 => ?_)
    clear hKq Kq hHeld
    (try simp only [Act.put, List.setIfInBounds_toArray, List.set_cons_zero, List.set_cons_succ])
    have hHeld := hHeld2
    clear hHeld2
    clear hK
    have HAL := Lib.hid (show allL [(some ⟨N0, 0, none⟩, 1, [(x1, x2)])] = [(x1, x2)] by simp [allL])
    refine wpAnyH_ready (rs := [7]) (by kernel_rfl) (by simp) ?_
    refine AllReadyH.cons (by simp only [List.getElem?_toArray, List.getElem?_cons_succ, List.getElem?_cons_zero]; rfl) (fun Kq hKq => ?_) AllReadyH.nil
    go_simp
    refine (merged_any s.una _ 1 1 [(some ⟨N0, 0, none⟩, 1, [(x1, x2)])] y2 rfl HLT.out HOK.out.u0 (by rw [HAL.out]; intro y hy; rw [List.mem_singleton.1 hy]; have h1 := Sc.inB_iff.1 HIB.out; have h2 := HOK.out.n40; unfold okS; dsimp only at h1 ⊢; omega) (by rw [HAL.out]; simp) (by omega)).mono ?_
    rintro e y3 ⟨v, rfl, hO, hb⟩
    rw [HAL.out] at hO
    obtain ⟨vb, vd, rfl, -⟩ := hO.val
    have hls := (LstAt.own hO (canonF_len HSP.out.1.1) (Nat.le_refl _)).1
    have hK := (show y3.cell? ⟨C, 0, none⟩ = some (.pointer (some ⟨B, 0, none⟩)) ∧ y3.cell? ⟨X, 0, none⟩ = some (.int .i64 x1) ∧ y3.cell? ⟨X, 1, none⟩ = some (.int .i64 x2) ∧ y3.cell? ⟨B, 0, none⟩ = some (.int .i64 s.una) ∧ y3.cell? ⟨B, 3, none⟩ = some (.slice sa s.sk.length sc) from ⟨cell_below hHeld.1 hb, cell_below hHeld.2.1 hb, cell_below hHeld.2.2.1 hb, cell_below hHeld.2.2.2.1 hb, cell_below hHeld.2.2.2.2 hb⟩)
    replace HE := Lib.hid (HE.out.below hb)
    replace ls3 := ls3.below hb
    clear hO hb HLT HAL
    go_simp
    refine hKq.out _ _ (hK) (fun hHeld2 => ?_)
    clear hKq Kq hHeld
    (try simp only [Act.put, List.setIfInBounds_toArray, List.set_cons_zero, List.set_cons_succ])
    have hHeld := hHeld2
    clear hHeld2
    clear hK
    refine wpAnyH_ready (rs := [12]) (by kernel_rfl) (by simp) ?_
    refine AllReadyH.cons (by simp only [List.getElem?_toArray, List.getElem?_cons_succ, List.getElem?_cons_zero]; rfl) (fun Kq hKq => ?_) AllReadyH.nil
    go_simp
    refine (without_any y3 y3.heap.size vb sa vd sc (mergedL s.una [(x1, x2)]) s.sk _ _ hls.1 ls3.1 ls3.2.1 (Nat.le_refl _) HSP.out.1.1 HOK.out.csk).mono ?_
    rintro e y4 ⟨v, rfl, hO, hb⟩
    obtain ⟨st, hst⟩ : ∃ st, st = wthF (mergedL s.una [(x1, x2)]) s.sk := ⟨_, rfl⟩
    rw [← hst] at hO
    have HCT := Lib.hid (show canonB st = true by rw [hst]; exact (wthF_spec HSP.out.1.1 HOK.out.csk).1)
    have HSD := Lib.hid (show (∀ y ∈ s.ag ++ st, okS y) ∧ s.retS (x1, x2) = { s with ag := mergedL s.una (s.ag ++ st) } by rw [hst]; exact ⟨HSP.out.1.2, rfl⟩)
    obtain ⟨va, vc, rfl, -⟩ := hO.val
    have hlv := (LstAt.own hO (canonF_len HCT.out) (Nat.le_refl _)).1
    have hK := (show y4.cell? ⟨C, 0, none⟩ = some (.pointer (some ⟨B, 0, none⟩)) ∧ y4.cell? ⟨X, 0, none⟩ = some (.int .i64 x1) ∧ y4.cell? ⟨X, 1, none⟩ = some (.int .i64 x2) ∧ y4.cell? ⟨B, 0, none⟩ = some (.int .i64 s.una) ∧ y4.cell? ⟨B, 3, none⟩ = some (.slice sa s.sk.length sc) from ⟨cell_below hHeld.1 hb, cell_below hHeld.2.1 hb, cell_below hHeld.2.2.1 hb, cell_below hHeld.2.2.2.1 hb, cell_below hHeld.2.2.2.2 hb⟩)
    replace HE := Lib.hid (HE.out.below hb)
    clear hO hb hls ls3 hst
    go_simp
    refine hKq.out _ _ (hK) (fun hHeld2 => ?_)
    clear hKq Kq hHeld
    (try simp only [Act.put, List.setIfInBounds_toArray, List.set_cons_zero, List.set_cons_succ])
    have hHeld := hHeld2
    clear hHeld2
    clear hK
    refine wpAnyH_take (i := 13) (v := ?_) (by simp only [List.getElem?_toArray, List.getElem?_cons_succ, List.getElem?_cons_zero]; rfl) (by kernel_rfl) (by kernel_rfl) (by kernel_rfl) (by exact fun _ _ _ h => h) (Or.inl ⟨by rfl, ?_⟩) (by assumption) ?_
    rotate_left 1
    · intro w hSw; (try dsimp only at hSw); go_simp; (try with_reducible rfl)
    (try simp only [Act.put, List.setIfInBounds_toArray, List.set_cons_zero, List.set_cons_succ])
    refine wpAnyH_done (by kernel_rfl) ?_ _
    clear hHeld
    go_wp2_with fail
    obtain ⟨-, -, -, -, ⟨k0, -⟩, -, -, -, -, -, -⟩ := HE.out.hs.ats
    refine wp_region_held_drew (S := (fun W : World => W.cell? ⟨C, 0, none⟩ = some (.pointer (some ⟨B, 0, none⟩)) ∧ W.cell? ⟨B, 0, none⟩ = some (.int .i64 s.una))) (by kernel_rfl) (⟨HE.out.cC, k0⟩) (fun hHeld => ?_)
    clear k0
    replace HE := Lib.hid HE.out.drew
    replace hlv := hlv.below (Below.refl _ _).drew
    obtain ⟨y5, hy5⟩ : ∃ y5, y5 = y4.drew := ⟨_, rfl⟩
    rw [← hy5] at HE hHeld hlv ⊢
    clear hy5
    obtain ⟨sa, sc, ga, gc, -, -, -, -, ⟨k4, g4⟩, -, ls4⟩ := HE.out.hs.ats
    refine wpAnyH_take (i := 0) (v := ?_) (by simp only [List.getElem?_toArray, List.getElem?_cons_zero]; rfl) (by kernel_rfl) (by kernel_rfl) (by kernel_rfl) (by exact fun _ _ _ h => h) (Or.inl ⟨by rfl, ?_⟩) (by assumption) ?_
    rotate_left 1
    · intro w hSw; (obtain ⟨z0, z1⟩ := hSw); go_simp; (try with_reducible rfl)
    (try simp only [Act.put, List.setIfInBounds_toArray, List.set_cons_zero, List.set_cons_succ])
    refine wpAnyH_take (i := 1) (v := ?_) (by simp only [List.getElem?_toArray, List.getElem?_cons_succ, List.getElem?_cons_zero]; rfl) (by kernel_rfl) (by kernel_rfl) (by kernel_rfl) (by exact fun _ _ _ h => h) (Or.inl ⟨by rfl, ?_⟩) (by assumption) ?_
    rotate_left 1
    · intro w hSw; (obtain ⟨z0, z1⟩ := hSw); go_simp; (try with_reducible rfl)
    (try simp only [Act.put, List.setIfInBounds_toArray, List.set_cons_zero, List.set_cons_succ])
    refine wpAnyH_take (i := 5) (v := ?_) (by simp only [List.getElem?_toArray, List.getElem?_cons_succ, List.getElem?_cons_zero]; rfl) (by kernel_rfl) (by kernel_rfl) (by kernel_rfl) (by exact fun _ _ _ h => h) (Or.inl ⟨by rfl, ?_⟩) (by assumption) ?_
    rotate_left 1
    · intro w hSw; (obtain ⟨z0, z1⟩ := hSw); go_simp; (try with_reducible rfl)
    (try simp only [Act.put, List.setIfInBounds_toArray, List.set_cons_zero, List.set_cons_succ])
    refine wpAnyH_take (i := 9) (v := ?_) (by simp only [List.getElem?_toArray, List.getElem?_cons_succ, List.getElem?_cons_zero]; rfl) (by kernel_rfl) (by kernel_rfl) (by kernel_rfl) (by exact fun _ _ _ h => h) (Or.inl ⟨by rfl, ?_⟩) (by assumption) ?_
    rotate_left 1
    · intro w hSw; (obtain ⟨z0, z1⟩ := hSw); go_simp; (try with_reducible rfl)
    (try simp only [Act.put, List.setIfInBounds_toArray, List.set_cons_zero, List.set_cons_succ])
    refine wpAnyH_take (i := 2) (v := ?_) (by simp only [List.getElem?_toArray, List.getElem?_cons_succ, List.getElem?_cons_zero]; rfl) (by kernel_rfl) (by kernel_rfl) (by kernel_rfl) (by exact fun _ _ _ h => h) (Or.inl ⟨by rfl, ?_⟩) (by assumption) ?_
    rotate_left 1
    · intro w hSw; (obtain ⟨z0, z1⟩ := hSw); go_simp; (try with_reducible rfl)
    (try simp only [Act.put, List.setIfInBounds_toArray, List.set_cons_zero, List.set_cons_succ])
    refine wpAnyH_take (i := 6) (v := ?_) (by simp only [List.getElem?_toArray, List.getElem?_cons_succ, List.getElem?_cons_zero]; rfl) (by kernel_rfl) (by kernel_rfl) (by kernel_rfl) (by exact fun _ _ _ h => h) (Or.inl ⟨by rfl, ?_⟩) (by assumption) ?_
    rotate_left 1
    · intro w hSw; (obtain ⟨z0, z1⟩ := hSw); go_simp; (try with_reducible rfl)
    (try simp only [Act.put, List.setIfInBounds_toArray, List.set_cons_zero, List.set_cons_succ])
    refine wpAnyH_take (i := 3) (v := ?_) (by simp only [List.getElem?_toArray, List.getElem?_cons_succ, List.getElem?_cons_zero]; rfl) (by kernel_rfl) (by kernel_rfl) (by kernel_rfl) (by exact fun _ _ _ h => h) (Or.inl ⟨by rfl, ?_⟩) (by assumption) ?_
    rotate_left 1
    · intro w hSw; (obtain ⟨z0, z1⟩ := hSw); go_simp; (try with_reducible rfl)
    (try simp only [Act.put, List.setIfInBounds_toArray, List.set_cons_zero, List.set_cons_succ])
    refine wpAnyH_take (i := 7) (v := ?_) (by simp only [List.getElem?_toArray, List.getElem?_cons_succ, List.getElem?_cons_zero]; rfl) (by kernel_rfl) (by kernel_rfl) (by kernel_rfl) (by exact fun _ _ _ h => h) (Or.inl ⟨by rfl, ?_⟩) (by assumption) ?_
    rotate_left 1
    · intro w hSw; (obtain ⟨z0, z1⟩ := hSw); go_simp; (try with_reducible rfl)
    (try simp only [Act.put, List.setIfInBounds_toArray, List.set_cons_zero, List.set_cons_succ])
    refine wpAnyH_take (i := 4) (v := ?_) (by simp only [List.getElem?_toArray, List.getElem?_cons_succ, List.getElem?_cons_zero]; rfl) (by kernel_rfl) (by kernel_rfl) (by kernel_rfl) (by exact fun _ _ _ h => h) (Or.inl ⟨by rfl, ?_⟩) (by assumption) ?_
    rotate_left 1
    · intro w hSw; (obtain ⟨z0, z1⟩ := hSw); go_simp; (try with_reducible rfl)
    (try simp only [Act.put, List.setIfInBounds_toArray, List.set_cons_zero, List.set_cons_succ])
    refine wpAnyH_ready (rs := [8]) (by kernel_rfl) (by simp) ?_
    refine AllReadyH.cons (by simp only [List.getElem?_toArray, List.getElem?_cons_succ, List.getElem?_cons_zero]; rfl) (fun Kq hKq => ?_) AllReadyH.nil
    go_simp
    refine hKq.out _ _ (hHeld) (fun hHeld2 => ?_)
    clear hKq Kq hHeld
    (try simp only [Act.put, List.setIfInBounds_toArray, List.set_cons_zero, List.set_cons_succ])
    have hHeld := hHeld2
    clear hHeld2
    refine wpAnyH_ready (rs := [10]) (by kernel_rfl) (by simp) ?_
    refine AllReadyH.cons (by simp only [List.getElem?_toArray, List.getElem?_cons_succ, List.getElem?_cons_zero]; rfl) (fun Kq hKq => ?_) AllReadyH.nil
    go_simp
    have hb := sgBel y5 (.cells #[.slice ga s.ag.length gc, .slice va st.length vc] 29)
    have hlat : ListsAt y5.heap.size [(ga, gc, s.ag), (va, vc, st)] (y5.alloc (.cells #[.slice ga s.ag.length gc, .slice va st.length vc] 29)) := ⟨by simp, fun i hi => by
      rcases (show i = 0 ∨ i = 1 by simp at hi; omega) with rfl | rfl
      · exact ⟨(At.new (W := y5) (vs := #[.slice ga s.ag.length gc, .slice va st.length vc]) _ rfl rfl).1, (ls4.1.below hb).mono hb.size⟩
      · exact ⟨(At.new (W := y5) (vs := #[.slice ga s.ag.length gc, .slice va st.length vc]) _ rfl rfl).1, (hlv.1.below hb).mono hb.size⟩⟩
    have hK := (show (y5.alloc (.cells #[.slice ga s.ag.length gc, .slice va st.length vc] 29)).cell? ⟨C, 0, none⟩ = some (.pointer (some ⟨B, 0, none⟩)) ∧ (y5.alloc (.cells #[.slice ga s.ag.length gc, .slice va st.length vc] 29)).cell? ⟨B, 0, none⟩ = some (.int .i64 s.una) from ⟨cell_below hHeld.1 hb, cell_below hHeld.2 hb⟩)
    replace HE := Lib.hid (HE.out.below hb)
    generalize y5.alloc (.cells #[.slice ga s.ag.length gc, .slice va st.length vc] 29) = y6 at HE hlat hK ⊢
    have HLT := Lib.hid hlat
    clear hb hlat ls4 hlv k4 g4
    refine hKq.out _ _ (hK) (fun hHeld2 => ?_)
    clear hKq Kq hHeld
    (try simp only [Act.put, List.setIfInBounds_toArray, List.set_cons_zero, List.set_cons_succ])
    have hHeld := hHeld2
    clear hHeld2
    clear hK
    have HAL := Lib.hid (show allL [(ga, gc, s.ag), (va, vc, st)] = s.ag ++ st by simp [allL])
    refine wpAnyH_ready (rs := [11]) (by kernel_rfl) (by simp) ?_
    refine AllReadyH.cons (by simp only [List.getElem?_toArray, List.getElem?_cons_succ, List.getElem?_cons_zero]; rfl) (fun Kq hKq => ?_) AllReadyH.nil
    go_simp
    refine (merged_any s.una _ 2 2 [(ga, gc, s.ag), (va, vc, st)] y6 rfl HLT.out HOK.out.u0 (by rw [HAL.out]; exact HSD.out.1) (by rw [HAL.out, List.length_append]; have h1 := canonB_half HOK.out.cag; have h2 := canonB_half HCT.out; omega) (by omega)).mono ?_
    rintro e y7 ⟨v, rfl, hO, hb⟩
    rw [HAL.out] at hO
    obtain ⟨vb, vd, rfl, -⟩ := hO.val
    obtain ⟨ag, hag⟩ : ∃ ag, ag = mergedL s.una (s.ag ++ st) := ⟨_, rfl⟩
    rw [← hag] at hO ⊢
    have HAG := Lib.hid (show canonB ag = true ∧ s.retS (x1, x2) = { s with ag := ag } by rw [hag]; refine ⟨?_, HSD.out.2⟩; have := HSP.out.2.1; rw [HSD.out.2] at this; exact this)
    have hls := (LstAt.own hO (canonF_len HAG.out.1) (show lb ≤ y6.heap.size by have := HE.out.hs.2.1.1; omega)).1
    have HLS := Lib.hid hls
    have hK := (show y7.cell? ⟨C, 0, none⟩ = some (.pointer (some ⟨B, 0, none⟩)) ∧ y7.cell? ⟨B, 0, none⟩ = some (.int .i64 s.una) from ⟨cell_below hHeld.1 hb, cell_below hHeld.2 hb⟩)
    replace HE := Lib.hid (HE.out.below hb)
    clear hO hb hls HLT HAL hag
    go_simp
    refine hKq.out _ _ (hK) (fun hHeld2 => ?_)
    clear hKq Kq hHeld
    (try simp only [Act.put, List.setIfInBounds_toArray, List.set_cons_zero, List.set_cons_succ])
    have hHeld := hHeld2
    clear hHeld2
    clear hK
    refine wpAnyH_take (i := 12) (v := ?_) (by simp only [List.getElem?_toArray, List.getElem?_cons_succ, List.getElem?_cons_zero]; rfl) (by kernel_rfl) (by kernel_rfl) (by kernel_rfl) (by exact fun _ _ _ h => h) (Or.inl ⟨by rfl, ?_⟩) (by assumption) ?_
    rotate_left 1
    · intro w hSw; (obtain ⟨z0, z1⟩ := hSw); go_simp; (try with_reducible rfl)
    (try simp only [Act.put, List.setIfInBounds_toArray, List.set_cons_zero, List.set_cons_succ])
    refine wpAnyH_take (i := 13) (v := ?_) (by simp only [List.getElem?_toArray, List.getElem?_cons_succ, List.getElem?_cons_zero]; rfl) (by kernel_rfl) (by kernel_rfl) (by kernel_rfl) (by exact fun _ _ _ h => h) (Or.inl ⟨by rfl, ?_⟩) (by assumption) ?_
    rotate_left 1
    · intro w hSw; (obtain ⟨z0, z1⟩ := hSw); go_simp; (try with_reducible rfl)
    (try simp only [Act.put, List.setIfInBounds_toArray, List.set_cons_zero, List.set_cons_succ])
    obtain ⟨sa1, sc1, ga1, gc1, -, -, -, -, ⟨k4, g4⟩, -, -⟩ := HE.out.hs.ats
    refine wpAnyH_ready (rs := [14]) (by kernel_rfl) (by simp) ?_
    refine AllReadyH.cons (by simp only [List.getElem?_toArray, List.getElem?_cons_succ, List.getElem?_cons_zero]; rfl) (fun Kq hKq => ?_) AllReadyH.nil
    go_simp
    clear k4 g4
    have hch := (Chg.refl B y7).setCell 4 (.slice vb ag.length vd)
    have hK := (show (y7.setCell ⟨B, 4, none⟩ (.slice vb ag.length vd)).cell? ⟨C, 0, none⟩ = some (.pointer (some ⟨B, 0, none⟩)) ∧ (y7.setCell ⟨B, 4, none⟩ (.slice vb ag.length vd)).cell? ⟨B, 0, none⟩ = some (.int .i64 s.una) from ⟨cell_chg hHeld.1 hch HE.out.ne.1, (World.cell?_setCell_other _ _ _ _ (by intro e; cases e)).trans hHeld.2⟩)
    have HF := Lib.hid (HE.out.hs.setAg HLS.out)
    have HCF := Lib.hid (HE.out.chg.trans hch)
    generalize (y7.setCell ⟨B, 4, none⟩ (.slice vb ag.length vd)) = y8 at HF HCF hK ⊢
    clear hch HLS
    refine hKq.out _ _ (hK) (fun hHeld2 => ?_)
    clear hKq Kq hHeld
    (try simp only [Act.put, List.setIfInBounds_toArray, List.set_cons_zero, List.set_cons_succ])
    have hHeld := hHeld2
    clear hHeld2
    clear hK
    refine wpAnyH_done (by kernel_rfl) ?_ _
    clear hHeld
    skip
    go_wp2_with fail
    go_ret
    exact ⟨_, rfl, by unfold Sc.retE; rw [if_pos HIB.out]; rfl, by unfold Sc.ret; rw [if_pos HIB.out, HAG.out.2]; exact HF.out, HCF.out⟩
set_option maxHeartbeats 1000000 in
theorem scretransmitted_any (B lb : Nat) (s : Sc) (x1 x2 : Int) (w : World) (ok : s.Ok) (hs : ScAt B lb s w) :
    Calls Try.prog 32 #[.pointer (some ⟨B, 0, none⟩), .agg #[.int .i64 x1, .int .i64 x2]] w fun e w' => e = .returned (.int .i64 (s.retE (x1, x2))) ∧ ScAt B lb (s.ret (x1, x2)) w' ∧ Chg B w w' := by
  have hlt := hs.lt
  have hb1 := (Below.refl w.heap.size w).alloc (Nat.le_refl _) (.cells #[.pointer (some ⟨B, 0, none⟩)] 42)
  have hb := hb1.alloc (by simp) (.cells #[.int .i64 x1, .int .i64 x2] 51)
  have a0 := (show At w.heap.size 0 (.pointer (some ⟨B, 0, none⟩)) _ from At.new (W := w) (vs := #[.pointer (some ⟨B, 0, none⟩)]) 42 rfl rfl).alloc (.cells #[.int .i64 x1, .int .i64 x2] 51)
  have a1 := (show At (w.heap.size + 1) 0 (.int .i64 x1) _ from At.new (W := w.alloc (.cells #[.pointer (some ⟨B, 0, none⟩)] 42)) (vs := #[.int .i64 x1, .int .i64 x2]) 51 (by simp) rfl)
  have a2 := (show At (w.heap.size + 1) 1 (.int .i64 x2) _ from At.new (W := w.alloc (.cells #[.pointer (some ⟨B, 0, none⟩)] 42)) (vs := #[.int .i64 x1, .int .i64 x2]) 51 (by simp) rfl)
  have hc := Chg.of_below (B := B) hb
  have HU := Lib.hid (retransmitted1_any w.heap.size (w.heap.size + 1) B lb s x1 x2 ((w.alloc (.cells #[.pointer (some ⟨B, 0, none⟩)] 42)).alloc (.cells #[.int .i64 x1, .int .i64 x2] 51)) ok a0.1 a1.1 a2.1 ⟨by omega, by omega⟩ (hs.below hb))
  have HC := Lib.hid hc
  clear hb1 hb a0 a1 a2 hc hs ok
  go_enter Try.func32, Try.ntmps32
  go_wp2_with fail
  refine (unless_Retransmitted _ _ _ _ HU.out).mono ?_
  rintro e w2 ⟨v, rfl, rfl, hS, hch⟩
  have HCC := Lib.hid (HC.out.trans hch)
  have HS := Lib.hid hS
  clear hS hch HU HC
  go_wp2_with fail
  go_ret
  exact ⟨rfl, HS.out, HCC.out⟩
end Go.Proofs.Ytncjeleabpodaaa
