/- Law 14's pick, span and spans. -/
import Derived.Test.YtncjeleabpodaaaScCalls
import Derived.Test.YtncjeleabpodaaaRcRet
import Derived.Test.YtncjeleabpodaaaRcLost
namespace Go.Proofs.Ytncjeleabpodaaa
open Go.RowKit Go.Shelf
def pickV (c n : Int) : Int := (if c < 0 then -(c + 1) else c) % n
set_option maxHeartbeats 400000 in
theorem pick_any (c n : Int) (w : World) (hc : I64 c) (hn : 1 ≤ n) (hn2 : n ≤ 9223372036854775807) :
    Calls Try.prog 23 #[.int .i64 c, .int .i64 n] w fun r w' => r = .returned (.int .i64 (pickV c n)) ∧ w = w' := by
  obtain ⟨h1, h2⟩ := hc
  by_cases c1 : c < 0
  · have H := Lib.hid (show -((c + 1).tmod n) = pickV c n by unfold pickV; rw [if_pos c1, ← Int.neg_tmod, Int.tmod_eq_emod_of_nonneg (by omega)])
    go_enter Try.func23, Try.ntmps23
    go_wp2
    go_ret
    exact ⟨by rw [← H.out]; rfl, rfl⟩
  · have H := Lib.hid (show c % n = pickV c n by unfold pickV; rw [if_neg c1])
    go_enter Try.func23, Try.ntmps23
    go_wp2
    go_ret
    exact ⟨by rw [← H.out]; rfl, rfl⟩
theorem pickV_bd (c n : Int) (hn : 1 ≤ n) : 0 ≤ pickV c n ∧ pickV c n < n := by
  unfold pickV; exact ⟨Int.emod_nonneg _ (by omega), Int.emod_lt_of_pos _ (by omega)⟩
def spanL (x : Sp) (next : Int) : List Sp := if next < 1 then [] else [(pickV x.1 next, pickV x.1 next + 1 + pickV x.2 (next - pickV x.1 next))]
theorem spanL_in (x : Sp) (next : Int) : ∀ y ∈ spanL x next, 0 ≤ y.1 ∧ y.1 < y.2 ∧ y.2 ≤ next := by
  intro y hy
  unfold spanL at hy
  split at hy
  · cases hy
  · rw [List.mem_singleton.1 hy]
    have h1 := pickV_bd x.1 next (by omega)
    have h2 := pickV_bd x.2 (next - pickV x.1 next) (by omega)
    dsimp only
    omega
theorem spanL_len (x : Sp) (next : Int) : (spanL x next).length ≤ 1 := by unfold spanL; split <;> simp
theorem OwnSp.one {w : World} {base : Nat} (y : Sp) (hb : base ≤ w.heap.size) : OwnSp (w.alloc (.cells #[.int .i64 y.1, .int .i64 y.2] 51)) base (.slice (some ⟨w.heap.size, 0, none⟩) 1 1) [y] :=
  ⟨rfl, .inr ⟨w.heap.size, 1, #[.int .i64 y.1, .int .i64 y.2], rfl, hb, heap_alloc_new _ _, by simp, by unfold maxLen; omega, rfl, rfl⟩⟩
theorem span_any (x1 x2 next : Int) (w : World) (h1 : I64 x1) (h2 : I64 x2) (hn : next ≤ 1099511627776) :
    Calls Try.prog 35 #[.agg #[.int .i64 x1, .int .i64 x2], .int .i64 next] w fun e w' => ∃ v, e = .returned v ∧ OwnSp w' w.heap.size v (spanL (x1, x2) next) ∧ Below w.heap.size w w' := by
  have hb := rcBel w (.cells #[.int .i64 x1, .int .i64 x2] 51)
  have HB := Lib.hid hb
  clear hb
  go_enter Try.func35, Try.ntmps35
  by_cases hlt : next < 1
  · have HL := Lib.hid (show spanL (x1, x2) next = [] by unfold spanL; rw [if_pos hlt])
    go_wp2_with fail
    go_ret
    exact ⟨_, rfl, by rw [HL.out]; exact OwnSp.nil _ _, HB.out⟩
  · have HL := Lib.hid (show spanL (x1, x2) next = [(pickV x1 next, pickV x1 next + 1 + pickV x2 (next - pickV x1 next))] by unfold spanL; rw [if_neg hlt])
    have HP := Lib.hid (fun W => pick_any x1 next W h1 (by omega) (by omega))
    have hb1 := pickV_bd x1 next (by omega)
    generalize pickV x1 next = p at HL HP hb1 ⊢
    have HQ := Lib.hid (fun W => pick_any x2 (next - p) W h2 (by omega) (by omega))
    have hb2 := pickV_bd x2 (next - p) (by omega)
    generalize pickV x2 (next - p) = q at HL HQ hb2 ⊢
    go_wp2_with fail
    refine (HP.out _).mono ?_
    rintro e w1 ⟨rfl, rfl⟩
    go_wp2_with fail
    refine (HQ.out _).mono ?_
    rintro e w1 ⟨rfl, rfl⟩
    go_wp2_with fail
    go_ret
    have ho := OwnSp.one (w := w.alloc (.cells #[.int .i64 x1, .int .i64 x2] 51)) (p, p + 1 + q) HB.out.size
    rw [World.size_alloc] at ho
    exact ⟨_, rfl, by rw [HL.out]; exact ho, HB.out.alloc HB.out.size _⟩
def spansL (c : Cl) (next : Int) : List Sp := if pickV c.n 3 = 0 then [] else spanL c.a next ++ spanL c.b next
theorem spansL_in (c : Cl) (next : Int) : ∀ y ∈ spansL c next, 0 ≤ y.1 ∧ y.1 < y.2 ∧ y.2 ≤ next := by
  intro y hy
  unfold spansL at hy
  split at hy
  · cases hy
  · rcases List.mem_append.1 hy with h | h
    · exact spanL_in _ _ y h
    · exact spanL_in _ _ y h
theorem spansL_len (c : Cl) (next : Int) : (spansL c next).length ≤ 2 := by
  unfold spansL
  split
  · simp
  · have := spanL_len c.a next
    have := spanL_len c.b next
    rw [List.length_append]; omega
set_option maxRecDepth 100000 in
set_option maxHeartbeats 2000000 in
theorem spans_any (c : Cl) (next : Int) (w : World) (hI : I64 c.kind ∧ I64 c.n ∧ I64 c.a.1 ∧ I64 c.a.2 ∧ I64 c.b.1 ∧ I64 c.b.2) (hn : next ≤ 1099511627776) :
    Calls Try.prog 92 #[.agg #[.int .i64 c.kind, .int .i64 c.n, .int .i64 c.a.1, .int .i64 c.a.2, .int .i64 c.b.1, .int .i64 c.b.2, .bool false], .int .i64 next] w fun e w' => ∃ v, e = .returned v ∧ OwnSp w' w.heap.size v (spansL c next) ∧ Below w.heap.size w w' := by
  obtain ⟨hk, hm, ha1, ha2, hb1, hb2⟩ := hI
  have hbx := rcBel w (.cells #[.int .i64 c.kind, .int .i64 c.n, .int .i64 c.a.1, .int .i64 c.a.2, .int .i64 c.b.1, .int .i64 c.b.2, .bool false] 89)
  have HB := Lib.hid hbx
  have HP := Lib.hid (fun W => pick_any c.n 3 W hm (by omega) (by omega))
  have HA := Lib.hid (fun W => span_any c.a.1 c.a.2 next W ha1 ha2 hn)
  have HBB := Lib.hid (fun W => span_any c.b.1 c.b.2 next W hb1 hb2 hn)
  have hXl : ∀ i v, (#[.int .i64 c.kind, .int .i64 c.n, .int .i64 c.a.1, .int .i64 c.a.2, .int .i64 c.b.1, .int .i64 c.b.2, .bool false] : Array Value)[i]? = some v → At w.heap.size i v (w.alloc (.cells #[.int .i64 c.kind, .int .i64 c.n, .int .i64 c.a.1, .int .i64 c.a.2, .int .i64 c.b.1, .int .i64 c.b.2, .bool false] 89)) := fun i v h => At.new _ rfl h
  have hK : (fun W : World => W.cell? ⟨w.heap.size, 2, none⟩ = some (.int .i64 c.a.1) ∧ W.cell? ⟨w.heap.size, 3, none⟩ = some (.int .i64 c.a.2) ∧ W.cell? ⟨w.heap.size, 4, none⟩ = some (.int .i64 c.b.1) ∧ W.cell? ⟨w.heap.size, 5, none⟩ = some (.int .i64 c.b.2)) (w.alloc (.cells #[.int .i64 c.kind, .int .i64 c.n, .int .i64 c.a.1, .int .i64 c.a.2, .int .i64 c.b.1, .int .i64 c.b.2, .bool false] 89)) := ⟨(hXl 2 _ rfl).1, (hXl 3 _ rfl).1, (hXl 4 _ rfl).1, (hXl 5 _ rfl).1⟩
  clear hbx hXl hm ha1 ha2 hb1 hb2 hk
  go_enter Try.func92, Try.ntmps92
  go_wp2_with fail
  refine (HP.out _).mono ?_
  rintro e w1 ⟨rfl, rfl⟩
  have hbz := pickV_bd c.n 3 (by omega)
  by_cases hz : pickV c.n 3 = 0
  · have HL := Lib.hid (show spansL c next = [] by unfold spansL; rw [if_pos hz])
    rw [hz]
    go_wp2_with fail
    go_ret
    exact ⟨_, rfl, by rw [HL.out]; exact OwnSp.nil _ _, HB.out⟩
  · have HL := Lib.hid (show spansL c next = spanL c.a next ++ spanL c.b next by unfold spansL; rw [if_neg hz])
    have hz2 : (pickV c.n 3 == 0) = false := by simp [hz]
    go_wp2_with fail
    obtain ⟨Xb, hXb⟩ : ∃ Xb, Xb = w.heap.size := ⟨_, rfl⟩
    rw [← hXb] at hK ⊢
    have HXb := Lib.hid hXb
    clear hXb
    refine wp_region_held_drew (S := (fun W : World => W.cell? ⟨Xb, 2, none⟩ = some (.int .i64 c.a.1) ∧ W.cell? ⟨Xb, 3, none⟩ = some (.int .i64 c.a.2) ∧ W.cell? ⟨Xb, 4, none⟩ = some (.int .i64 c.b.1) ∧ W.cell? ⟨Xb, 5, none⟩ = some (.int .i64 c.b.2))) (by kernel_rfl) (hK) (fun hHeld => ?_)
    clear hK
    replace HB := Lib.hid HB.out.drew
    generalize (w.alloc (.cells #[.int .i64 c.kind, .int .i64 c.n, .int .i64 c.a.1, .int .i64 c.a.2, .int .i64 c.b.1, .int .i64 c.b.2, .bool false] 89)).drew = w2 at HB hHeld ⊢
    refine wpAnyH_take (i := 0) (v := ?_) (by simp only [List.getElem?_toArray, List.getElem?_cons_zero]; rfl) (by kernel_rfl) (by kernel_rfl) (by kernel_rfl) (by exact fun _ _ _ h => h) (Or.inl ⟨by rfl, ?_⟩) (by assumption) ?_
    rotate_left 1
    · intro w hSw; (obtain ⟨z0, z1, z2, z3⟩ := hSw); go_simp; (try with_reducible rfl)
    (try simp only [Act.put, List.setIfInBounds_toArray, List.set_cons_zero, List.set_cons_succ])
    refine wpAnyH_take (i := 1) (v := ?_) (by simp only [List.getElem?_toArray, List.getElem?_cons_succ, List.getElem?_cons_zero]; rfl) (by kernel_rfl) (by kernel_rfl) (by kernel_rfl) (by exact fun _ _ _ h => h) (Or.inl ⟨by rfl, ?_⟩) (by assumption) ?_
    rotate_left 1
    · intro w hSw; (obtain ⟨z0, z1, z2, z3⟩ := hSw); go_simp; (try with_reducible rfl)
    (try simp only [Act.put, List.setIfInBounds_toArray, List.set_cons_zero, List.set_cons_succ])
    refine wpAnyH_take (i := 2) (v := ?_) (by simp only [List.getElem?_toArray, List.getElem?_cons_succ, List.getElem?_cons_zero]; rfl) (by kernel_rfl) (by kernel_rfl) (by kernel_rfl) (by exact fun _ _ _ h => h) (Or.inl ⟨by rfl, ?_⟩) (by assumption) ?_
    rotate_left 1
    · intro w hSw; (obtain ⟨z0, z1, z2, z3⟩ := hSw); go_simp; (try with_reducible rfl)
    (try simp only [Act.put, List.setIfInBounds_toArray, List.set_cons_zero, List.set_cons_succ])
    refine wpAnyH_take (i := 4) (v := ?_) (by simp only [List.getElem?_toArray, List.getElem?_cons_succ, List.getElem?_cons_zero]; rfl) (by kernel_rfl) (by kernel_rfl) (by kernel_rfl) (by exact fun _ _ _ h => h) (Or.inl ⟨by rfl, ?_⟩) (by assumption) ?_
    rotate_left 1
    · intro w hSw; (obtain ⟨z0, z1, z2, z3⟩ := hSw); go_simp; (try with_reducible rfl)
    (try simp only [Act.put, List.setIfInBounds_toArray, List.set_cons_zero, List.set_cons_succ])
    refine wpAnyH_take (i := 5) (v := ?_) (by simp only [List.getElem?_toArray, List.getElem?_cons_succ, List.getElem?_cons_zero]; rfl) (by kernel_rfl) (by kernel_rfl) (by kernel_rfl) (by exact fun _ _ _ h => h) (Or.inl ⟨by rfl, ?_⟩) (by assumption) ?_
    rotate_left 1
    · intro w hSw; (obtain ⟨z0, z1, z2, z3⟩ := hSw); go_simp; (try with_reducible rfl)
    (try simp only [Act.put, List.setIfInBounds_toArray, List.set_cons_zero, List.set_cons_succ])
    refine wpAnyH_take (i := 6) (v := ?_) (by simp only [List.getElem?_toArray, List.getElem?_cons_succ, List.getElem?_cons_zero]; rfl) (by kernel_rfl) (by kernel_rfl) (by kernel_rfl) (by exact fun _ _ _ h => h) (Or.inl ⟨by rfl, ?_⟩) (by assumption) ?_
    rotate_left 1
    · intro w hSw; (obtain ⟨z0, z1, z2, z3⟩ := hSw); go_simp; (try with_reducible rfl)
    (try simp only [Act.put, List.setIfInBounds_toArray, List.set_cons_zero, List.set_cons_succ])
    have hHeld0 := hHeld
    refine wpAnyH_ready (rs := [3]) (by kernel_rfl) (by simp) ?_
    refine AllReadyH.cons (by simp only [List.getElem?_toArray, List.getElem?_cons_succ, List.getElem?_cons_zero]; rfl) (fun Kq hKq => ?_) AllReadyH.nil
    go_simp
    refine (HA.out w2).mono ?_
    rintro e w3 ⟨va, rfl, hOa, hb⟩
    have HX5 := Lib.hid (show ∀ k, va.ownBlock = some k → Xb < k from fun k e => by have h1 := (hOa.lt k e).1; have h2 := block_lt_of_cell hHeld0.1; dsimp only at h2; omega)
    have hK3 := (show (fun W : World => W.cell? ⟨Xb, 2, none⟩ = some (.int .i64 c.a.1) ∧ W.cell? ⟨Xb, 3, none⟩ = some (.int .i64 c.a.2) ∧ W.cell? ⟨Xb, 4, none⟩ = some (.int .i64 c.b.1) ∧ W.cell? ⟨Xb, 5, none⟩ = some (.int .i64 c.b.2)) w3 from ⟨cell_bel2 hHeld0.1 (block_lt_of_cell hHeld0.1) hb, cell_bel2 hHeld0.2.1 (block_lt_of_cell hHeld0.2.1) hb, cell_bel2 hHeld0.2.2.1 (block_lt_of_cell hHeld0.2.2.1) hb, cell_bel2 hHeld0.2.2.2 (block_lt_of_cell hHeld0.2.2.2) hb⟩)
    have HOA := Lib.hid (hOa.mono HB.out.size)
    replace HB := Lib.hid (HB.out.trans (hb.mono HB.out.size))
    clear hOa hb hHeld0
    go_simp
    refine hKq.out _ _ (hK3) (fun hHeld2 => ?_)
    clear hKq Kq hHeld
    (try simp only [Act.put, List.setIfInBounds_toArray, List.set_cons_zero, List.set_cons_succ])
    have hHeld := hHeld2
    clear hHeld2
    have hHeld0 := hHeld
    clear hK3
    refine wpAnyH_ready (rs := [7]) (by kernel_rfl) (by simp) ?_
    refine AllReadyH.cons (by simp only [List.getElem?_toArray, List.getElem?_cons_succ, List.getElem?_cons_zero]; rfl) (fun Kq hKq => ?_) AllReadyH.nil
    go_simp
    refine (HBB.out w3).mono ?_
    rintro e w4 ⟨vb, rfl, hOb, hb⟩
    have hK4 := (show (fun W : World => W.cell? ⟨Xb, 2, none⟩ = some (.int .i64 c.a.1) ∧ W.cell? ⟨Xb, 3, none⟩ = some (.int .i64 c.a.2) ∧ W.cell? ⟨Xb, 4, none⟩ = some (.int .i64 c.b.1) ∧ W.cell? ⟨Xb, 5, none⟩ = some (.int .i64 c.b.2)) w4 from ⟨cell_bel2 hHeld0.1 (block_lt_of_cell hHeld0.1) hb, cell_bel2 hHeld0.2.1 (block_lt_of_cell hHeld0.2.1) hb, cell_bel2 hHeld0.2.2.1 (block_lt_of_cell hHeld0.2.2.1) hb, cell_bel2 hHeld0.2.2.2 (block_lt_of_cell hHeld0.2.2.2) hb⟩)
    replace HOA := Lib.hid (HOA.out.ownBel hb)
    have HOB := Lib.hid hOb
    replace HB := Lib.hid (HB.out.trans (hb.mono HB.out.size))
    clear hOb hb hHeld0
    go_simp
    refine hKq.out _ _ (hK4) (fun hHeld2 => ?_)
    clear hKq Kq hHeld
    (try simp only [Act.put, List.setIfInBounds_toArray, List.set_cons_zero, List.set_cons_succ])
    have hHeld := hHeld2
    clear hHeld2
    have hla := spanL_len c.a next
    have hlb := spanL_len c.b next
    rw [show ((c.a.1, c.a.2) : Sp) = c.a from rfl] at HOA
    rw [show ((c.b.1, c.b.2) : Sp) = c.b from rfl] at HOB
    generalize spanL c.a next = A at HL HOA hla
    generalize spanL c.b next = BB at HL HOB hlb
    rcases Nat.eq_zero_or_pos BB.length with hz0 | hz0
    · obtain ⟨ab, cb, rfl, -⟩ := HOB.out.val
      rw [hz0]
      obtain rfl : BB = [] := List.eq_nil_of_length_eq_zero hz0
      refine wpAnyH_ready (rs := [8]) (by kernel_rfl) (by simp) ?_
      refine AllReadyH.cons (by simp only [List.getElem?_toArray, List.getElem?_cons_succ, List.getElem?_cons_zero]; rfl) (fun Kq hKq => ?_) AllReadyH.nil
      refine step_append_zero rfl _ _ rfl w.heap.size va A (by rfl) HOA.out ab cb (by rfl) ?_
      refine hKq.out _ _ (hK4) (fun hHeld2 => ?_)
      clear hKq Kq hHeld
      (try simp only [Act.put, List.setIfInBounds_toArray, List.set_cons_zero, List.set_cons_succ])
      have hHeld := hHeld2
      clear hHeld2
      refine wpAnyH_take (i := 9) (v := ?_) (by simp only [List.getElem?_toArray, List.getElem?_cons_succ, List.getElem?_cons_zero]; rfl) (by kernel_rfl) (by kernel_rfl) (by kernel_rfl) (by exact fun _ _ _ h => h) (Or.inl ⟨by rfl, ?_⟩) (by assumption) ?_
      rotate_left 1
      · intro w hSw; (obtain ⟨z0, z1, z2, z3⟩ := hSw); go_simp; (try with_reducible rfl)
      (try simp only [Act.put, List.setIfInBounds_toArray, List.set_cons_zero, List.set_cons_succ])
      refine wpAnyH_done (by kernel_rfl) ?_ _
      clear hHeld
      go_wp2_with fail
      go_ret
      refine ⟨_, rfl, ?_, HB.out⟩
      rw [HL.out]
      rw [List.append_nil]; exact HOA.out
    · obtain ⟨ab, cb, rfl, hsp, -, -⟩ := HOB.out.at (by omega)
      obtain ⟨bb, ob, rfl, hbb, hcc⟩ := hsp.cells hz0
      have HSB := Lib.hid hsp
      clear hsp hcc
      refine wpAnyH_ready (rs := [8]) (by kernel_rfl) (by simp) ?_
      refine AllReadyH.cons (by simp only [List.getElem?_toArray, List.getElem?_cons_succ, List.getElem?_cons_zero]; rfl) (fun Kq hKq => ?_) AllReadyH.nil
      refine step_append_spans rfl _ _ rfl w.heap.size va A (by rfl) HOA.out (by omega) bb ob cb BB (by rfl) HSB.out HB.out.size ?_
      intro v5 w5 ho5 hg5 hb5
      have HO5 := Lib.hid ho5
      have HB5 := Lib.hid (HB.out.trans (grown_below hg5 HB.out.size (fun k e => (HOA.out.lt k e).1)))
      have hne : va.ownBlock ≠ some Xb := fun e => by have := (HX5.out Xb e); omega
      have hK5 := (show (fun W : World => W.cell? ⟨Xb, 2, none⟩ = some (.int .i64 c.a.1) ∧ W.cell? ⟨Xb, 3, none⟩ = some (.int .i64 c.a.2) ∧ W.cell? ⟨Xb, 4, none⟩ = some (.int .i64 c.b.1) ∧ W.cell? ⟨Xb, 5, none⟩ = some (.int .i64 c.b.2)) w5 from ⟨cell_grown hg5 hK4.1 hne, cell_grown hg5 hK4.2.1 hne, cell_grown hg5 hK4.2.2.1 hne, cell_grown hg5 hK4.2.2.2 hne⟩)
      clear ho5 hg5 hb5 hne
      refine hKq.out _ _ (hK5) (fun hHeld2 => ?_)
      clear hKq Kq hHeld
      (try simp only [Act.put, List.setIfInBounds_toArray, List.set_cons_zero, List.set_cons_succ])
      have hHeld := hHeld2
      clear hHeld2
      refine wpAnyH_take (i := 9) (v := ?_) (by simp only [List.getElem?_toArray, List.getElem?_cons_succ, List.getElem?_cons_zero]; rfl) (by kernel_rfl) (by kernel_rfl) (by kernel_rfl) (by exact fun _ _ _ h => h) (Or.inl ⟨by rfl, ?_⟩) (by assumption) ?_
      rotate_left 1
      · intro w hSw; (obtain ⟨z0, z1, z2, z3⟩ := hSw); go_simp; (try with_reducible rfl)
      (try simp only [Act.put, List.setIfInBounds_toArray, List.set_cons_zero, List.set_cons_succ])
      refine wpAnyH_done (by kernel_rfl) ?_ _
      clear hHeld
      go_wp2_with fail
      go_ret
      refine ⟨_, rfl, ?_, HB5.out⟩
      rw [HL.out]
      exact HO5.out
end Go.Proofs.Ytncjeleabpodaaa
