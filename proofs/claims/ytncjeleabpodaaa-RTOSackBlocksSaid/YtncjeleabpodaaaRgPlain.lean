/- Sets of offsets as lists of spans, in plain terms, with no program in sight. -/
import Derived.Lib.Hide
namespace Go.Proofs.Ytncjeleabpodaaa
/-- A span: from, to. -/
abbrev Sp := Int × Int
def canonF : Int → List Sp → Bool
  | _, [] => true
  | e, x :: l => decide (0 ≤ x.1 ∧ e < x.1 ∧ x.1 < x.2 ∧ x.2 ≤ 1099511627776) && canonF x.2 l
def canonB (l : List Sp) : Bool := canonF (-1) l
def takesB (l : List Sp) (s : Sp) : Bool := canonB l && canonB [s]
def one (a b : Int) : List Sp := if a < b then [(a, b)] else []
def withL (ps : List Sp) : List Sp := ps.filter fun x => decide (x.1 < x.2)
def gapsF (t : Int) : Int → List Sp → List Sp
  | a, [] => one a t
  | a, x :: l => if x.2 ≤ a then gapsF t a l else if t ≤ x.1 then one a t else one a x.1 ++ gapsF t x.2 l
def gapsL (l : List Sp) (s : Sp) : List Sp := if takesB l s = true then gapsF s.2 s.1 l else []
def addF : Sp → List Sp → List Sp
  | s, [] => [s]
  | s, x :: l => if x.2 < s.1 then x :: addF s l else if s.2 < x.1 then s :: x :: l else addF (min s.1 x.1, max s.2 x.2) l
def addL (l : List Sp) (s : Sp) : List Sp := if takesB l s = true then addF s l else []
def countF : List Sp → Int
  | [] => 0
  | x :: l => x.2 - x.1 + countF l
def countL (l : List Sp) : Int := if canonB l = true then countF l else 0
def remF (s : Sp) : List Sp → List Sp
  | [] => []
  | x :: l => one x.1 (min x.2 s.1) ++ one (max x.1 s.2) x.2 ++ remF s l
def remL (l : List Sp) (s : Sp) : List Sp := if takesB l s = true then remF s l else []
def hasB (l : List Sp) (s : Sp) : Bool := takesB l s && l.any fun x => decide (x.1 ≤ s.1 ∧ s.2 ≤ x.2)
/-- i is one of the integers of l. -/
def Mem (i : Int) (l : List Sp) : Prop := ∃ x ∈ l, x.1 ≤ i ∧ i < x.2
theorem mem_nil {i : Int} : ¬ Mem i [] := by rintro ⟨x, h, _⟩; cases h
theorem mem_cons {i : Int} {x : Sp} {l : List Sp} : Mem i (x :: l) ↔ (x.1 ≤ i ∧ i < x.2) ∨ Mem i l := by
  constructor
  · rintro ⟨y, h, g⟩
    rcases List.mem_cons.1 h with rfl | h
    · exact .inl g
    · exact .inr ⟨y, h, g⟩
  · rintro (g | ⟨y, h, g⟩)
    · exact ⟨x, List.mem_cons_self, g⟩
    · exact ⟨y, List.mem_cons_of_mem _ h, g⟩
theorem mem_append {i : Int} {a b : List Sp} : Mem i (a ++ b) ↔ Mem i a ∨ Mem i b := by
  induction a with
  | nil => simp [mem_nil]
  | cons x l ih => rw [List.cons_append, mem_cons, ih, mem_cons, or_assoc]
theorem mem_one {i a b : Int} : Mem i (one a b) ↔ a ≤ i ∧ i < b := by
  unfold one
  split
  · rw [mem_cons]; simp [mem_nil]
  · constructor
    · exact fun h => (mem_nil h).elim
    · omega
theorem canonF_cons {e : Int} {x : Sp} {l : List Sp} : canonF e (x :: l) = true ↔ (0 ≤ x.1 ∧ e < x.1 ∧ x.1 < x.2 ∧ x.2 ≤ 1099511627776) ∧ canonF x.2 l = true := by
  show (decide _ && _) = true ↔ _
  rw [Bool.and_eq_true, decide_eq_true_iff]
theorem canonF_mono {e e' : Int} {l : List Sp} (h : canonF e l = true) (he : e' ≤ e) : canonF e' l = true := by
  cases l with
  | nil => rfl
  | cons x l => rw [canonF_cons] at h ⊢; exact ⟨by omega, h.2⟩
theorem canonF_mem {e : Int} {l : List Sp} (h : canonF e l = true) {i : Int} (hi : Mem i l) : e < i ∧ 0 ≤ i ∧ i < 1099511627776 := by
  induction l generalizing e with
  | nil => exact (mem_nil hi).elim
  | cons x l ih =>
    rw [canonF_cons] at h
    rcases mem_cons.1 hi with g | g
    · omega
    · have := ih h.2 g; omega
theorem canonB_one {s : Sp} : canonB [s] = true ↔ 0 ≤ s.1 ∧ s.1 < s.2 ∧ s.2 ≤ 1099511627776 := by
  unfold canonB
  rw [canonF_cons]
  show _ ∧ true = true ↔ _
  simp only [and_true]
  omega
theorem takesB_iff {l : List Sp} {s : Sp} : takesB l s = true ↔ canonB l = true ∧ 0 ≤ s.1 ∧ s.1 < s.2 ∧ s.2 ≤ 1099511627776 := by
  unfold takesB
  rw [Bool.and_eq_true, canonB_one]
/-- Adding: a canonical list again, of the integers of both. -/
theorem addF_spec {e : Int} {s : Sp} {l : List Sp} (hl : canonF e l = true) (hs : 0 ≤ s.1 ∧ e < s.1 ∧ s.1 < s.2 ∧ s.2 ≤ 1099511627776) :
    canonF e (addF s l) = true ∧ ∀ i, Mem i (addF s l) ↔ (s.1 ≤ i ∧ i < s.2) ∨ Mem i l := by
  induction l generalizing e s with
  | nil =>
    refine ⟨canonF_cons.2 ⟨hs, rfl⟩, fun i => ?_⟩
    show Mem i [s] ↔ _
    rw [mem_cons]
  | cons x l ih =>
    rw [canonF_cons] at hl
    show canonF e (if x.2 < s.1 then x :: addF s l else if s.2 < x.1 then s :: x :: l else addF (min s.1 x.1, max s.2 x.2) l) = true ∧ ∀ i, Mem i (if x.2 < s.1 then x :: addF s l else if s.2 < x.1 then s :: x :: l else addF (min s.1 x.1, max s.2 x.2) l) ↔ _
    split
    · rename_i h1
      obtain ⟨a, b⟩ := ih hl.2 (s := s) ⟨hs.1, h1, hs.2.2⟩
      refine ⟨canonF_cons.2 ⟨hl.1, a⟩, fun i => ?_⟩
      rw [mem_cons, b, mem_cons]
      constructor
      · rintro (h | h | h) <;> simp [h]
      · rintro (h | h | h) <;> simp [h]
    · split
      · refine ⟨canonF_cons.2 ⟨hs, canonF_cons.2 ⟨⟨hl.1.1, by assumption, hl.1.2.2⟩, hl.2⟩⟩, fun i => ?_⟩
        rw [mem_cons]
      · rename_i h1 h2
        have hl' : canonF e l = true := canonF_mono hl.2 (by omega)
        obtain ⟨a, b⟩ := ih hl' (s := (min s.1 x.1, max s.2 x.2)) (by dsimp only; omega)
        refine ⟨a, fun i => ?_⟩
        rw [b, mem_cons]
        dsimp only
        constructor
        · rintro (h | h)
          · by_cases g : s.1 ≤ i ∧ i < s.2
            · exact .inl g
            · exact .inr (.inl (by omega))
          · exact .inr (.inr h)
        · rintro (h | h | h)
          · exact .inl (by omega)
          · exact .inl (by omega)
          · exact .inr h
theorem addL_spec {l : List Sp} {s : Sp} (h : takesB l s = true) : canonB (addL l s) = true ∧ ∀ i, Mem i (addL l s) ↔ (s.1 ≤ i ∧ i < s.2) ∨ Mem i l := by
  unfold addL
  rw [if_pos h]
  obtain ⟨a, b⟩ := takesB_iff.1 h
  exact addF_spec a (by omega)
/-- Gaps: a canonical list of the integers of [a, t) that are not in l. -/
theorem gapsF_spec {e t a : Int} {l : List Sp} (hl : canonF e l = true) (ha : 0 ≤ a) (ht : t ≤ 1099511627776) (e' : Int) (he' : e' < a) :
    canonF e' (gapsF t a l) = true ∧ ∀ i, Mem i (gapsF t a l) ↔ (a ≤ i ∧ i < t) ∧ ¬ Mem i l := by
  induction l generalizing e a e' with
  | nil =>
    show canonF e' (one a t) = true ∧ ∀ i, Mem i (one a t) ↔ _
    refine ⟨?_, fun i => by rw [mem_one]; simp [mem_nil]⟩
    unfold one
    split
    · exact canonF_cons.2 ⟨by dsimp only; omega, rfl⟩
    · rfl
  | cons x l ih =>
    rw [canonF_cons] at hl
    show canonF e' (if x.2 ≤ a then gapsF t a l else if t ≤ x.1 then one a t else one a x.1 ++ gapsF t x.2 l) = true ∧ ∀ i, Mem i (if x.2 ≤ a then gapsF t a l else if t ≤ x.1 then one a t else one a x.1 ++ gapsF t x.2 l) ↔ _
    split
    · rename_i h1
      obtain ⟨c, d⟩ := ih hl.2 ha e' he'
      refine ⟨c, fun i => ?_⟩
      rw [d, mem_cons]
      constructor
      · rintro ⟨h, g⟩; exact ⟨h, by rintro (k | k); omega; exact g k⟩
      · rintro ⟨h, g⟩; exact ⟨h, fun k => g (.inr k)⟩
    · split
      · rename_i h1 h2
        refine ⟨?_, fun i => ?_⟩
        · unfold one
          split
          · exact canonF_cons.2 ⟨by dsimp only; omega, rfl⟩
          · rfl
        · rw [mem_one, mem_cons]
          constructor
          · intro h
            refine ⟨h, ?_⟩
            rintro (k | k)
            · omega
            · have := canonF_mem hl.2 k; omega
          · exact fun h => h.1
      · rename_i h1 h2
        have key := fun e' he' => ih hl.2 (a := x.2) (by omega) e' he'
        refine ⟨?_, fun i => ?_⟩
        · unfold one
          split
          · rw [List.singleton_append]
            refine canonF_cons.2 ⟨by dsimp only; omega, (key x.1 (by omega)).1⟩
          · rw [List.nil_append]; exact (key e' (by omega)).1
        · rw [mem_append, mem_one, (key (x.2 - 1) (by omega)).2, mem_cons]
          constructor
          · rintro (h | ⟨h, g⟩)
            · refine ⟨by omega, ?_⟩
              rintro (k | k)
              · omega
              · have := canonF_mem hl.2 k; omega
            · refine ⟨by omega, ?_⟩
              rintro (k | k)
              · omega
              · exact g k
          · rintro ⟨h, g⟩
            by_cases k : i < x.1
            · exact .inl ⟨h.1, k⟩
            · refine .inr ⟨⟨?_, h.2⟩, fun k => g (.inr k)⟩
              by_cases m : x.2 ≤ i
              · exact m
              · exact (g (.inl (by omega))).elim
theorem gapsL_spec {l : List Sp} {s : Sp} (h : takesB l s = true) : canonB (gapsL l s) = true ∧ ∀ i, Mem i (gapsL l s) ↔ (s.1 ≤ i ∧ i < s.2) ∧ ¬ Mem i l := by
  unfold gapsL
  rw [if_pos h]
  obtain ⟨a, b⟩ := takesB_iff.1 h
  exact gapsF_spec a b.1 b.2.2 (-1) (by omega)
theorem countF_nonneg {e : Int} {l : List Sp} (h : canonF e l = true) : 0 ≤ countF l ∧ (e < 1099511627776 → countF l ≤ 1099511627776 - e) ∧ countF l ≤ 1099511627776 := by
  induction l generalizing e with
  | nil => exact ⟨Int.le_refl _, fun _ => by show (0 : Int) ≤ _; omega, by show (0 : Int) ≤ _; omega⟩
  | cons x l ih =>
    rw [canonF_cons] at h
    have := ih h.2
    show 0 ≤ x.2 - x.1 + countF l ∧ (_ → x.2 - x.1 + countF l ≤ _) ∧ x.2 - x.1 + countF l ≤ _
    cases l with
    | nil => simp only [countF]; omega
    | cons y l => have h2 := h.2; rw [canonF_cons] at h2; omega
theorem canonF_len {e : Int} {L : List Sp} (h : canonF e L = true) : L.length ≤ 1099511627776 := by
  have key : ∀ (L : List Sp) (e : Int), canonF e L = true → (L.length : Int) ≤ countF L := by
    intro L
    induction L with
    | nil => intro _ _; exact Int.le_refl _
    | cons x l ih =>
      intro e hc
      rw [canonF_cons] at hc
      have := ih _ hc.2
      show ((l.length + 1 : Nat) : Int) ≤ x.2 - x.1 + countF l
      omega
  have := key L e h
  have := (countF_nonneg h).2.2
  omega
end Go.Proofs.Ytncjeleabpodaaa
