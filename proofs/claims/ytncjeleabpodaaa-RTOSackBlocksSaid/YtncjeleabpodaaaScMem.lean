/- merged: what its loops keep. -/
import Derived.Test.YtncjeleabpodaaaScSort
namespace Go.Proofs.Ytncjeleabpodaaa
open Go.RowKit Go.Shelf
/-- A slice of one's own is nil, or lies at the head of a block. -/
theorem OwnSp.cases {w : World} {base : Nat} {v : Value} {L : List Sp} (h : OwnSp w base v L) : (v = .slice none 0 0 ∧ L = []) ∨ ∃ g cap, v = .slice (some ⟨g, 0, none⟩) L.length cap ∧ base ≤ g ∧ g < w.heap.size ∧ L.length ≤ cap ∧ cap ≤ 9223372036854775807 := by
  rcases h.2 with ⟨rfl, hn⟩ | ⟨g, cap, cur, hv, hbg, hg, hnc, hcm, hcs, htake⟩
  · exact .inl ⟨rfl, List.eq_nil_of_length_eq_zero hn⟩
  · exact .inr ⟨g, cap, hv, hbg, (Array.getElem?_eq_some_iff.1 hg).1, hnc, by unfold maxLen at hcm; omega⟩
theorem sgBel (w : World) (o : Obj) : Below w.heap.size w (w.alloc o) := (Below.refl _ w).alloc (Nat.le_refl _) o
theorem OwnSp.own2 {W W' : World} {base : Nat} {v : Value} {L : List Sp} (h : OwnSp W base v L) (hb : Below W.heap.size W W') : OwnSp W' base v L := by
  refine h.kept (row := none) (grown_of_below hb) ?_
  cases v.ownBlock with
  | none => exact .inl rfl
  | some x => exact .inr (by simp)
theorem flatV_setLast (A : List Sp) (l : Sp) (m : Int) : (flatV (A ++ [l])).set (A.length * 2 + 1) (.int .i64 m) = flatV (A ++ [(l.1, m)]) := by
  rw [flatV_append, flatV_append, List.set_append_right _ _ (by rw [flatV_length]; omega), flatV_length, show A.length * 2 + 1 - A.length * 2 = 1 by omega]
  rfl
/-- The end of the last span is stored. -/
theorem OwnSp.setLast {w : World} {base g cap n : Nat} {A : List Sp} {l : Sp} (h : OwnSp w base (.slice (some ⟨g, 0, none⟩) n cap) (A ++ [l])) (m : Int) :
    OwnSp (w.setCell ⟨g, A.length * 2 + 1, none⟩ (.int .i64 m)) base (.slice (some ⟨g, 0, none⟩) n cap) (A ++ [(l.1, m)]) := by
  rcases h.2 with ⟨e, _⟩ | ⟨g', cap', cur, hv, hbg, hg, hnc, hcm, hcs, htake⟩
  · cases e
  · cases hv
    have hlen : (A ++ [l]).length = (A ++ [(l.1, m)]).length := by rw [List.length_append, List.length_append]; rfl
    refine ⟨flatV_length _, .inr ⟨g, cap, cur.setIfInBounds (A.length * 2 + 1) (.int .i64 m), by rw [← hlen], hbg, ?_, by rw [← hlen]; exact hnc, hcm, ?_, ?_⟩⟩
    · rw [heap_setCell_same _ _ _ _ _ _ hg]
    · rw [Array.size_setIfInBounds]; exact hcs
    · rw [Array.toList_setIfInBounds, List.take_set, ← hlen, htake, flatV_setLast]
theorem mem_of_perm {A B : List Sp} (h : A.Perm B) (i : Int) : Mem i A ↔ Mem i B := by
  unfold Mem
  constructor
  · rintro ⟨x, hx, g⟩; exact ⟨x, h.mem_iff.1 hx, g⟩
  · rintro ⟨x, hx, g⟩; exact ⟨x, h.mem_iff.2 hx, g⟩
theorem clipL_len (low : Int) (L : List Sp) : (clipL low L).length ≤ L.length := by
  unfold clipL withL
  exact Nat.le_trans (List.length_filter_le _ _) (by rw [List.length_map]; exact Nat.le_refl _)
abbrev SlA := Option Addr × Nat × List Sp
def allL (Ls : List SlA) : List Sp := Ls.flatMap fun x => x.2.2
theorem allL_take {Ls : List SlA} {j : Nat} (h : j < Ls.length) : allL (Ls.take (j + 1)) = allL (Ls.take j) ++ Ls[j].2.2 := by
  unfold allL
  rw [List.take_succ_eq_append_getElem h, List.flatMap_append]
  simp
theorem allL_len {Ls : List SlA} {j k : Nat} (h : j < Ls.length) : (allL (Ls.take j) ++ Ls[j].2.2.take k).length ≤ (allL Ls).length := by
  have h1 : allL Ls = allL (Ls.take (j + 1)) ++ allL (Ls.drop (j + 1)) := by
    unfold allL
    rw [← List.flatMap_append, List.take_append_drop]
  rw [h1, allL_take h, List.length_append, List.length_append, List.length_append, List.length_take]
  omega
/-- A row of slices of spans. -/
def ListsAt (C : Nat) (Ls : List SlA) (w : World) : Prop := C < w.heap.size ∧ ∀ i (h : i < Ls.length), w.cell? ⟨C, i, none⟩ = some (.slice Ls[i].1 Ls[i].2.2.length Ls[i].2.1) ∧ SpAt w w.heap.size Ls[i].1 Ls[i].2.2
/-- The merging of what was sorted. -/
theorem mrgI_take {D : List Sp} (hp : D.Pairwise (fun x y => x.1 ≤ y.1)) (hok : ∀ x ∈ D, okS x) : ∀ k, k ≤ D.length → MrgI (D.take k) ((D.take k).foldl mrgS [])
  | 0, _ => by rw [List.take_zero]; exact MrgI.start
  | k + 1, hk => by
    have ih := mrgI_take hp hok k (by omega)
    have hkl : k < D.length := by omega
    rw [List.take_succ_eq_append_getElem hkl, List.foldl_append]
    refine ih.step (hok _ (List.getElem_mem hkl)) (fun y hy => ?_)
    obtain ⟨i, hi, rfl⟩ := List.mem_iff_getElem.1 hy
    rw [List.length_take] at hi
    rw [List.getElem_take]
    exact List.pairwise_iff_getElem.1 hp i k (by omega) hkl (by omega)
theorem mrg_done {low : Int} {L D : List Sp} (h0 : 0 ≤ low) (hok : ∀ x ∈ L, okS x) (hp : D.Pairwise (fun x y => x.1 ≤ y.1)) (hd : D.Perm (clipL low L)) : D.foldl mrgS [] = mergedL low L := by
  have hDok : ∀ x ∈ D, okS x := fun x hx => clipL_ok h0 hok x (hd.mem_iff.1 hx)
  have h := mrgI_take hp hDok D.length (Nat.le_refl _)
  rw [List.take_length] at h
  obtain ⟨m1, m2⟩ := mergedL_spec h0 hok
  exact canonF_unique h.canon m1 (fun i => by rw [h.mem, mem_of_perm hd, mem_clipL, m2])
theorem mrg_len : ∀ (D A : List Sp), (D.foldl mrgS A).length ≤ A.length + D.length
  | [], A => by simp
  | x :: D, A => by
    have h := mrg_len D (mrgS A x)
    have h2 : (mrgS A x).length ≤ A.length + 1 := by
      rcases getLast_cases A with rfl | ⟨B, l, rfl⟩
      · show [x].length ≤ _; simp
      · unfold mrgS
        rw [show (B ++ [l]).getLast? = some l by simp]
        dsimp only
        split
        · rw [List.dropLast_concat, List.length_append, List.length_append]; simp
        · rw [List.length_append]; simp
    rw [List.foldl_cons, List.length_cons]
    omega
theorem sort_own {w : World} {base : Nat} {v : Value} {L : List Sp} (hown : OwnSp w base v L) (hlen : L.length ≤ 1099511627776) (hbase : base ≤ w.heap.size) :
    Calls Try.prog 99 #[v, .func (.func 100) #[] #[]] w fun e w' => e = .returned (.tuple #[]) ∧ ∃ D a cap, v = .slice a D.length cap ∧ D.Perm L ∧ D.Pairwise (fun x y => x.1 ≤ y.1) ∧ SpAt w' w'.heap.size a D ∧ Below base w w' := by
  rcases hown.cases with ⟨rfl, rfl⟩ | ⟨g, cap, rfl, hg, hgl, -, -⟩
  · refine (sort_none none 0 _ w).mono ?_
    rintro e w' ⟨he, rfl⟩
    exact ⟨he, [], none, 0, rfl, List.Perm.refl _, List.Pairwise.nil, ⟨by simp, fun h => absurd h (by simp)⟩, Below.refl _ _⟩
  · refine (sortF_any g cap base L w hlen hown).mono ?_
    rintro e w' ⟨he, D, h1, h2, h3, h4⟩
    exact ⟨he, D, _, cap, by rw [h1.length_eq], h1, h2, h3, h4 base hg hbase⟩
end Go.Proofs.Ytncjeleabpodaaa
