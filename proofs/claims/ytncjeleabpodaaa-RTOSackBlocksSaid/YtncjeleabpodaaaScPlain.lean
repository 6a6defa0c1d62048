/- The scoreboard in plain terms: unions, differences, gaps; no program in sight. -/
import Derived.Test.YtncjeleabpodaaaRgPlain
namespace Go.Proofs.Ytncjeleabpodaaa
theorem canonF_gt {e : Int} {l : List Sp} (h : canonF e l = true) {i : Int} (hi : Mem i l) : e < i := (canonF_mem h hi).1
/-- A canonical list is known by its members. -/
theorem canonF_unique {e1 e2 : Int} {A B : List Sp} (hA : canonF e1 A = true) (hB : canonF e2 B = true) (h : ∀ i, Mem i A ↔ Mem i B) : A = B := by
  induction A generalizing e1 e2 B with
  | nil =>
    cases B with
    | nil => rfl
    | cons y t =>
      rw [canonF_cons] at hB
      exact (mem_nil ((h y.1).2 (mem_cons.2 (.inl ⟨Int.le_refl _, hB.1.2.2.1⟩)))).elim
  | cons x s ih =>
    cases B with
    | nil =>
      rw [canonF_cons] at hA
      exact (mem_nil ((h x.1).1 (mem_cons.2 (.inl ⟨Int.le_refl _, hA.1.2.2.1⟩)))).elim
    | cons y t =>
      rw [canonF_cons] at hA hB
      have gx : ∀ i, Mem i s → x.2 < i := fun i hi => canonF_gt hA.2 hi
      have gy : ∀ i, Mem i t → y.2 < i := fun i hi => canonF_gt hB.2 hi
      have k : ∀ i, (x.1 ≤ i ∧ i < x.2) ∨ Mem i s ↔ (y.1 ≤ i ∧ i < y.2) ∨ Mem i t := fun i => by rw [← mem_cons, ← mem_cons]; exact h i
      have e1 : x.1 = y.1 := by
        rcases (k x.1).1 (.inl (by omega)) with a | a
        · rcases (k y.1).2 (.inl (by omega)) with b | b
          · omega
          · have := gx _ b; omega
        · have := gy _ a
          rcases (k y.1).2 (.inl (by omega)) with b | b
          · omega
          · have := gx _ b; omega
      have e2 : x.2 = y.2 := by
        rcases (show x.2 < y.2 ∨ y.2 < x.2 ∨ x.2 = y.2 by omega) with a | a | a
        · rcases (k x.2).2 (.inl (by omega)) with b | b
          · omega
          · have := gx _ b; omega
        · rcases (k y.2).1 (.inl (by omega)) with b | b
          · omega
          · have := gy _ b; omega
        · exact a
      obtain rfl : x = y := Prod.ext e1 e2
      rw [ih hA.2 hB.2 (fun i => ?_)]
      constructor
      · intro hi
        have := gx i hi
        rcases (k i).1 (.inr hi) with b | b
        · omega
        · exact b
      · intro hi
        have := gy i hi
        rcases (k i).2 (.inr hi) with b | b
        · omega
        · exact b
theorem canonF_app {e : Int} {A B : List Sp} {m : Int} (hA : canonF e A = true) (hm : ∀ i, Mem i A → i < m) (he : e < m) (hB : canonF m B = true) : canonF e (A ++ B) = true := by
  induction A generalizing e with
  | nil => exact canonF_mono hB (by omega)
  | cons x l ih =>
    rw [canonF_cons] at hA
    rw [List.cons_append, canonF_cons]
    have hx := hm (x.2 - 1) (mem_cons.2 (.inl (by omega)))
    refine ⟨hA.1, ?_⟩
    rcases (show x.2 < m ∨ x.2 = m by omega) with h | h
    · exact ih hA.2 (fun i hi => hm i (mem_cons.2 (.inr hi))) h
    · cases l with
      | nil => rw [h]; exact hB
      | cons y l =>
        have h2 := hA.2
        rw [canonF_cons] at h2
        have := hm y.1 (mem_cons.2 (.inr (mem_cons.2 (.inl (by omega)))))
        omega
/-- A valid span. -/
def okS (x : Sp) : Prop := 0 ≤ x.1 ∧ x.1 < x.2 ∧ x.2 ≤ 1099511627776
theorem canonF_ok {e : Int} {L : List Sp} (h : canonF e L = true) : ∀ x ∈ L, okS x := by
  induction L generalizing e with
  | nil => intro x hx; cases hx
  | cons y l ih =>
    rw [canonF_cons] at h
    intro x hx
    rcases List.mem_cons.1 hx with rfl | hx
    · exact ⟨h.1.1, h.1.2.2.1, h.1.2.2.2⟩
    · exact ih h.2 x hx
/-- The union of valid spans. -/
def uniL (L : List Sp) : List Sp := L.foldl addL []
theorem uniL_snoc (L : List Sp) (x : Sp) : uniL (L ++ [x]) = addL (uniL L) x := by unfold uniL; rw [List.foldl_append]; rfl
theorem uniL_spec {L : List Sp} (h : ∀ x ∈ L, okS x) : canonB (uniL L) = true ∧ ∀ i, Mem i (uniL L) ↔ Mem i L := by
  have key : ∀ (L A : List Sp), (∀ x ∈ L, okS x) → canonB A = true → canonB (L.foldl addL A) = true ∧ ∀ i, Mem i (L.foldl addL A) ↔ Mem i A ∨ Mem i L := by
    intro L
    induction L with
    | nil => intro A _ hA; exact ⟨hA, fun i => by simp [mem_nil]⟩
    | cons x l ih =>
      intro A h hA
      have hx := h x List.mem_cons_self
      have ht : takesB A x = true := takesB_iff.2 ⟨hA, hx⟩
      obtain ⟨a1, a2⟩ := addL_spec ht
      obtain ⟨b1, b2⟩ := ih (addL A x) (fun y hy => h y (List.mem_cons_of_mem _ hy)) a1
      refine ⟨b1, fun i => ?_⟩
      show Mem i (l.foldl addL (addL A x)) ↔ _
      rw [b2, a2, mem_cons]
      constructor
      · rintro ((h | h) | h)
        · exact .inr (.inl h)
        · exact .inl h
        · exact .inr (.inr h)
      · rintro (h | h | h)
        · exact .inl (.inr h)
        · exact .inl (.inl h)
        · exact .inr h
  obtain ⟨a, b⟩ := key L [] h rfl
  exact ⟨a, fun i => by unfold uniL; rw [b]; simp [mem_nil]⟩
/-- What of the spans lies at or above low. -/
def clipL (low : Int) (L : List Sp) : List Sp := withL (L.map fun x => (max x.1 low, x.2))
theorem clipL_append (low : Int) (A B : List Sp) : clipL low (A ++ B) = clipL low A ++ clipL low B := by unfold clipL withL; rw [List.map_append, List.filter_append]
theorem clipL_one (low : Int) (x : Sp) : clipL low [x] = one (max x.1 low) x.2 := by
  unfold clipL withL one
  by_cases h : max x.1 low < x.2
  · simp [h]
  · simp [h]
theorem mem_clipL {low i : Int} {L : List Sp} : Mem i (clipL low L) ↔ low ≤ i ∧ Mem i L := by
  induction L with
  | nil => constructor
           · intro h; exact (mem_nil h).elim
           · intro h; exact (mem_nil h.2).elim
  | cons x l ih =>
    rw [show x :: l = [x] ++ l from rfl, clipL_append, mem_append, mem_append, ih, clipL_one, mem_one, mem_cons]
    constructor
    · rintro (h | h)
      · exact ⟨by omega, .inl (.inl ⟨by omega, h.2⟩)⟩
      · exact ⟨h.1, .inr h.2⟩
    · rintro ⟨h, (k | k) | k⟩
      · exact .inl ⟨by omega, k.2⟩
      · exact (mem_nil k).elim
      · exact .inr ⟨h, k⟩
theorem clipL_ok {low : Int} {L : List Sp} (h0 : 0 ≤ low) (h : ∀ x ∈ L, okS x) : ∀ x ∈ clipL low L, okS x := by
  intro x hx
  unfold clipL withL at hx
  obtain ⟨h1, h2⟩ := List.mem_filter.1 hx
  obtain ⟨y, hy, rfl⟩ := List.mem_map.1 h1
  have := h y hy
  unfold okS at this ⊢
  dsimp only at h2 ⊢
  rw [decide_eq_true_iff] at h2
  omega
def mergedL (low : Int) (L : List Sp) : List Sp := uniL (clipL low L)
theorem mergedL_spec {low : Int} {L : List Sp} (h0 : 0 ≤ low) (h : ∀ x ∈ L, okS x) : canonB (mergedL low L) = true ∧ ∀ i, Mem i (mergedL low L) ↔ low ≤ i ∧ Mem i L := by
  obtain ⟨a, b⟩ := uniL_spec (clipL_ok h0 h)
  exact ⟨a, fun i => by unfold mergedL; rw [b, mem_clipL]⟩
/-- One step of merging sorted spans. -/
def mrgS (out : List Sp) (x : Sp) : List Sp :=
  match out.getLast? with
  | none => [x]
  | some l => if x.1 ≤ l.2 then out.dropLast ++ [(l.1, max l.2 x.2)] else out ++ [x]
/-- What the merging keeps. -/
structure MrgI (done : List Sp) (out : List Sp) : Prop where
  canon : canonB out = true
  mem : ∀ i, Mem i out ↔ Mem i done
  last : ∀ l, out.getLast? = some l → ∃ y ∈ done, l.1 ≤ y.1
theorem canonF_snoc {e : Int} {A : List Sp} {l : Sp} : canonF e (A ++ [l]) = true ↔ canonF e A = true ∧ okS l ∧ e < l.1 ∧ ∀ x ∈ A, x.2 < l.1 := by
  induction A generalizing e with
  | nil =>
    rw [List.nil_append, canonF_cons]
    unfold okS
    constructor
    · rintro ⟨h, -⟩; exact ⟨rfl, by omega, by omega, fun x hx => by cases hx⟩
    · rintro ⟨-, h, h2, -⟩; exact ⟨by omega, rfl⟩
  | cons y s ih =>
    rw [List.cons_append, canonF_cons, canonF_cons, ih]
    constructor
    · rintro ⟨h1, h2, h3, h4, h5⟩
      refine ⟨⟨h1, h2⟩, h3, by omega, fun x hx => ?_⟩
      rcases List.mem_cons.1 hx with rfl | hx
      · exact h4
      · exact h5 x hx
    · rintro ⟨⟨h1, h2⟩, h3, h4, h5⟩
      exact ⟨h1, h2, h3, h5 y List.mem_cons_self, fun x hx => h5 x (List.mem_cons_of_mem _ hx)⟩
theorem mem_snoc {i : Int} {A : List Sp} {l : Sp} : Mem i (A ++ [l]) ↔ Mem i A ∨ (l.1 ≤ i ∧ i < l.2) := by
  rw [mem_append, mem_cons]; simp [mem_nil]
theorem getLast_cases (out : List Sp) : out = [] ∨ ∃ A l, out = A ++ [l] := by
  rcases List.eq_nil_or_concat out with h | ⟨A, l, h⟩
  · exact .inl h
  · exact .inr ⟨A, l, by rw [h, List.concat_eq_append]⟩
theorem MrgI.step {done out : List Sp} (h : MrgI done out) {x : Sp} (hx : okS x) (hs : ∀ y ∈ done, y.1 ≤ x.1) : MrgI (done ++ [x]) (mrgS out x) := by
  rcases getLast_cases out with rfl | ⟨A, l, rfl⟩
  · have hd : ∀ i, ¬ Mem i done := fun i hi => mem_nil ((h.mem i).2 hi)
    show MrgI _ [x]
    refine ⟨canonB_one.2 hx, fun i => ?_, fun l hl => ?_⟩
    · rw [mem_snoc, mem_cons]
      simp [mem_nil, hd i]
    · simp at hl; subst hl; exact ⟨x, by simp, Int.le_refl _⟩
  · have hg : (A ++ [l]).getLast? = some l := by simp
    unfold mrgS
    rw [hg]
    have hc := canonF_snoc.1 (show canonF (-1) (A ++ [l]) = true from h.canon)
    obtain ⟨y, hy, hly⟩ := h.last l hg
    have hlx : l.1 ≤ x.1 := by have := hs y hy; omega
    unfold okS at hx
    obtain ⟨c1, c2, c3, c4⟩ := hc
    unfold okS at c2
    show MrgI (done ++ [x]) (if x.1 ≤ l.2 then (A ++ [l]).dropLast ++ [(l.1, max l.2 x.2)] else A ++ [l] ++ [x])
    split
    · rename_i hle
      rw [List.dropLast_concat]
      refine ⟨canonF_snoc.2 ⟨c1, by unfold okS; dsimp only; omega, c3, c4⟩, fun i => ?_, fun l' hl' => ?_⟩
      · rw [mem_snoc, mem_snoc, ← h.mem i, mem_snoc]
        dsimp only
        constructor
        · rintro (a | a)
          · exact .inl (.inl a)
          · by_cases k : i < l.2
            · exact .inl (.inr ⟨a.1, k⟩)
            · exact .inr (by omega)
        · rintro ((a | a) | a)
          · exact .inl a
          · exact .inr (by omega)
          · exact .inr (by omega)
      · simp at hl'; subst hl'; exact ⟨y, List.mem_append_left _ hy, hly⟩
    · rename_i hle
      refine ⟨canonF_snoc.2 ⟨h.canon, by unfold okS; omega, by omega, fun z hz => ?_⟩, fun i => ?_, fun l' hl' => ?_⟩
      · rcases List.mem_append.1 hz with hz | hz
        · have := c4 z hz; omega
        · rw [List.mem_singleton.1 hz]; omega
      · rw [mem_snoc, h.mem i, mem_snoc]
      · simp at hl'; subst hl'; exact ⟨x, by simp, Int.le_refl _⟩
theorem MrgI.start : MrgI [] [] := ⟨rfl, fun i => Iff.rfl, fun l hl => by simp at hl⟩
/-- What is in a and not in b. -/
def wthF (a b : List Sp) : List Sp := a.flatMap fun x => gapsF x.2 x.1 b
theorem wthF_snoc (a b : List Sp) (x : Sp) : wthF (a ++ [x]) b = wthF a b ++ gapsF x.2 x.1 b := by unfold wthF; rw [List.flatMap_append]; simp
theorem wthF_spec {e eb : Int} {a b : List Sp} (ha : canonF e a = true) (hb : canonF eb b = true) : canonF e (wthF a b) = true ∧ ∀ i, Mem i (wthF a b) ↔ Mem i a ∧ ¬ Mem i b := by
  induction a generalizing e with
  | nil => exact ⟨rfl, fun i => by unfold wthF; simp [mem_nil]⟩
  | cons x l ih =>
    rw [canonF_cons] at ha
    obtain ⟨c1, c2⟩ := ih ha.2
    obtain ⟨g1, g2⟩ := gapsF_spec (t := x.2) (a := x.1) hb ha.1.1 ha.1.2.2.2 e ha.1.2.1
    show canonF e (gapsF x.2 x.1 b ++ wthF l b) = true ∧ ∀ i, Mem i (gapsF x.2 x.1 b ++ wthF l b) ↔ _
    refine ⟨canonF_app g1 (fun i hi => ((g2 i).1 hi).1.2) (by omega) c1, fun i => ?_⟩
    rw [mem_append, g2, c2, mem_cons]
    constructor
    · rintro (⟨h, k⟩ | ⟨h, k⟩)
      · exact ⟨.inl h, k⟩
      · exact ⟨.inr h, k⟩
    · rintro ⟨h | h, k⟩
      · exact .inl ⟨h, k⟩
      · exact .inr ⟨h, k⟩
/-- The spans that do not end at or below at. -/
def upL (at' : Int) (l : List Sp) : List Sp := l.dropWhile fun x => decide (x.2 ≤ at')
theorem upL_cons (at' : Int) (x : Sp) (l : List Sp) : upL at' (x :: l) = if x.2 ≤ at' then upL at' l else x :: l := by
  unfold upL
  rw [List.dropWhile_cons]
  by_cases h : x.2 ≤ at' <;> simp [h]
theorem upL_upL {a b : Int} (h : a ≤ b) (l : List Sp) : upL b (upL a l) = upL b l := by
  induction l with
  | nil => rfl
  | cons x l ih =>
    rw [upL_cons a]
    split
    · rw [ih, upL_cons b, if_pos (by omega)]
    · rfl
theorem gapsF_up {t a : Int} (l : List Sp) : gapsF t a (upL a l) = gapsF t a l := by
  induction l with
  | nil => rfl
  | cons x l ih =>
    rw [upL_cons]
    split
    · rename_i h
      rw [ih]
      show _ = if x.2 ≤ a then gapsF t a l else _
      rw [if_pos h]
    · rfl
end Go.Proofs.Ytncjeleabpodaaa
