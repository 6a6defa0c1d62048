/- The reference's scoreboard: plain facts. -/
import Derived.Test.YtncjeleabpodaaaRfPl
namespace Go.Proofs.Ytncjeleabpodaaa
/-- The part of a list at or above n. -/
def abvL (n : Int) : List Sp → List Sp
  | [] => []
  | x :: l => if n < x.2 then (max x.1 n, x.2) :: abvL n l else abvL n l
theorem abvL_snoc (n : Int) (L : List Sp) (x : Sp) : abvL n (L ++ [x]) = abvL n L ++ if n < x.2 then [(max x.1 n, x.2)] else [] := by
  induction L with
  | nil => show (if n < x.2 then (max x.1 n, x.2) :: abvL n [] else abvL n []) = _; rfl
  | cons y l ih =>
    show (if n < y.2 then (max y.1 n, y.2) :: abvL n (l ++ [x]) else abvL n (l ++ [x])) = (if n < y.2 then (max y.1 n, y.2) :: abvL n l else abvL n l) ++ _
    rw [ih]
    split
    · rfl
    · rfl
theorem abvL_len (n : Int) (L : List Sp) : (abvL n L).length ≤ L.length := by
  induction L with
  | nil => exact Nat.le_refl _
  | cons y l ih =>
    show (if n < y.2 then (max y.1 n, y.2) :: abvL n l else abvL n l).length ≤ _
    split
    · rw [List.length_cons, List.length_cons]; omega
    · rw [List.length_cons]; omega
theorem abvL_spec {e n : Int} {L : List Sp} (h : canonF e L = true) : canonF e (abvL n L) = true ∧ ∀ i, Mem i (abvL n L) ↔ n ≤ i ∧ Mem i L := by
  induction L generalizing e with
  | nil => exact ⟨rfl, fun i => ⟨fun h => (mem_nil h).elim, fun h => (mem_nil h.2).elim⟩⟩
  | cons y l ih =>
    rw [canonF_cons] at h
    obtain ⟨c1, c2⟩ := ih h.2
    show canonF e (if n < y.2 then (max y.1 n, y.2) :: abvL n l else abvL n l) = true ∧ ∀ i, Mem i (if n < y.2 then (max y.1 n, y.2) :: abvL n l else abvL n l) ↔ _
    split
    · refine ⟨canonF_cons.2 ⟨by dsimp only; omega, c1⟩, fun i => ?_⟩
      rw [mem_cons, c2, mem_cons]
      dsimp only
      constructor
      · rintro (k | k)
        · exact ⟨by omega, .inl ⟨by omega, k.2⟩⟩
        · exact ⟨k.1, .inr k.2⟩
      · rintro ⟨k, k2 | k2⟩
        · exact .inl ⟨by omega, k2.2⟩
        · exact .inr ⟨k, k2⟩
    · refine ⟨canonF_mono c1 (by omega), fun i => ?_⟩
      rw [c2, mem_cons]
      constructor
      · rintro k; exact ⟨k.1, .inr k.2⟩
      · rintro ⟨k, k2 | k2⟩
        · omega
        · exact ⟨k, k2⟩
theorem addF_spec2 {L A : List Sp} (h : ∀ x ∈ L, okS x) (hA : canonB A = true) : canonB (L.foldl addL A) = true ∧ ∀ i, Mem i (L.foldl addL A) ↔ Mem i A ∨ Mem i L := by
  induction L generalizing A with
  | nil => exact ⟨hA, fun i => by simp [mem_nil]⟩
  | cons x l ih =>
    have hx := h x List.mem_cons_self
    have ht : takesB A x = true := takesB_iff.2 ⟨hA, hx⟩
    obtain ⟨a1, a2⟩ := addL_spec ht
    obtain ⟨b1, b2⟩ := ih (A := addL A x) (fun y hy => h y (List.mem_cons_of_mem _ hy)) a1
    refine ⟨b1, fun i => ?_⟩
    show Mem i (l.foldl addL (addL A x)) ↔ _
    rw [b2, a2, mem_cons]
    constructor
    · rintro ((h | h) | h)
      · exact .inr (.inl h)
      · exact .inl h
      · exact .inr (.inr h)
    · rintro (h | h | h)
      · exact .inl (.inr h)
      · exact .inl (.inl h)
      · exact .inr h
theorem abv_add {u : Int} {L A : List Sp} (h0 : 0 ≤ u) (h : ∀ x ∈ L, okS x) (hA : canonB A = true) : abvL u (L.foldl addL A) = mergedL u (A ++ L) := by
  obtain ⟨a1, a2⟩ := addF_spec2 h hA
  obtain ⟨b1, b2⟩ := abvL_spec (n := u) (show canonF (-1) (L.foldl addL A) = true from a1)
  obtain ⟨c1, c2⟩ := mergedL_spec (low := u) (L := A ++ L) h0 (fun x hx => by
    rcases List.mem_append.1 hx with hx | hx
    · exact canonF_ok hA x hx
    · exact h x hx)
  exact canonF_unique b1 c1 (fun i => by rw [b2, c2, a2, mem_append])
theorem abv_mrg {u : Int} {A : List Sp} (h0 : 0 ≤ u) (hA : canonB A = true) : abvL u A = mergedL u A := by
  have := abv_add (L := []) h0 (fun x hx => by cases hx) hA
  rw [List.append_nil] at this
  exact this
theorem rem_wth {A B : List Sp} (hA : canonB A = true) (hB : canonB B = true) : B.foldl remL A = wthF A B := by
  obtain ⟨a1, a2⟩ := rem_spec (canonF_ok hB) hA
  obtain ⟨b1, b2⟩ := wthF_spec (e := -1) (eb := -1) hA hB
  exact canonF_unique a1 b1 (fun i => by rw [a2, b2])
theorem gapsL_wth {s : Sc} (h : s.Ok) {x : Sp} (hx : s.inB x = true) : abvL s.una ((gapsL s.sk x).foldl addL s.ag) = (s.retS x).ag := by
  have h1 := Sc.inB_iff.1 hx
  have hn := h.n40
  obtain ⟨-, e1, e2⟩ := h.ret_spec hx
  have ht : takesB s.sk x = true := takesB_iff.2 ⟨h.csk, h1.1, h1.2.1, by omega⟩
  obtain ⟨g1, g2⟩ := gapsL_spec ht
  obtain ⟨a1, a2⟩ := addF_spec2 (canonF_ok g1) h.cag
  obtain ⟨b1, b2⟩ := abvL_spec (n := s.una) (show canonF (-1) _ = true from a1)
  refine canonF_unique b1 e1 (fun i => ?_)
  rw [b2, e2, a2, g2]
  constructor
  · rintro ⟨k, k2 | k2⟩
    · exact .inl k2
    · exact .inr ⟨k, k2⟩
  · rintro (k | k)
    · exact ⟨(h.mag i k).1, .inl k⟩
    · exact ⟨k.1, .inr k.2⟩
theorem abv_up {c d : Int} (hcd : c < d) {e : Int} {L : List Sp} (h : canonF e L = true) (ha : ∀ y ∈ L, y.2 ≤ c ∨ d ≤ y.1) : abvL d L = upL c L := by
  induction L generalizing e with
  | nil => rfl
  | cons y l ih =>
    rw [canonF_cons] at h
    have hi := ih h.2 (fun z hz => ha z (List.mem_cons_of_mem _ hz))
    show (if d < y.2 then (max y.1 d, y.2) :: abvL d l else abvL d l) = _
    rw [upL_cons]
    rcases ha y List.mem_cons_self with hy | hy
    · rw [if_neg (by omega), if_pos hy, hi]
    · rw [if_pos (by omega), if_neg (by omega), show max y.1 d = y.1 by omega]
      have hl : ∀ (l : List Sp) (e : Int), d ≤ e → canonF e l = true → abvL d l = l := by
        intro l
        induction l with
        | nil => intro e _ _; rfl
        | cons z t iht =>
          intro e he hz
          rw [canonF_cons] at hz
          show (if d < z.2 then (max z.1 d, z.2) :: abvL d t else abvL d t) = _
          rw [if_pos (by omega), show max z.1 d = z.1 by omega, iht z.2 (by omega) hz.2]
      rw [hl l y.2 (by omega) h.2]
theorem gap_apart {s : Sc} (h : s.Ok) {g : Sp} (hg : g ∈ s.gaps) : g.1 < g.2 ∧ ∀ y ∈ s.sk, y.2 ≤ g.1 ∨ g.2 ≤ y.1 := by
  have hlt := canonF_lt (gaps_canon s) hg
  refine ⟨hlt, fun y hy => ?_⟩
  have hy2 := (canonF_ok h.csk y hy).2.1
  rcases (show y.2 ≤ g.1 ∨ g.2 ≤ y.1 ∨ (g.1 < y.2 ∧ y.1 < g.2) by omega) with k | k | k
  · exact .inl k
  · exact .inr k
  · have hm := (mem_gaps h).1 ⟨g, hg, (show g.1 ≤ max g.1 y.1 by omega), by omega⟩
    exact (hm.2 ⟨y, hy, by omega, by omega⟩).elim
theorem abv_gap {s : Sc} (h : s.Ok) {g : Sp} (hg : g ∈ s.gaps) : abvL g.2 s.sk = upL g.1 s.sk := abv_up (gap_apart h hg).1 h.csk (gap_apart h hg).2
/-- One gap's part of All. -/
def refOf (s : Sc) (m : Int) (g : Sp) : Sp := if countF (abvL g.2 s.sk) < 3 * m ∧ (abvL g.2 s.sk).length < 3 then (g.1, min g.2 s.mark) else g
def allR (s : Sc) (m : Int) (L : List Sp) : List Sp := withL (L.map (refOf s m))
theorem refOf_one {s : Sc} (h : s.Ok) {m : Int} {g : Sp} (hg : g ∈ s.gaps) : withL [refOf s m g] = withL [s.lostOf m g] := by
  have e := abv_gap h hg
  unfold refOf Sc.lostOf
  rw [e]
  by_cases hc : countF (upL g.1 s.sk) / 3 < m ∧ (upL g.1 s.sk).length < 3
  · rw [if_pos hc, if_pos ⟨by omega, hc.2⟩]
    rw [withL_cons, withL_cons]
    dsimp only
    by_cases hl : g.1 < min g.2 s.mark
    · rw [if_pos hl, if_pos (by omega), show max g.1 (min g.2 s.mark) = min g.2 s.mark by omega]
    · rw [if_neg hl, if_neg (by omega)]
  · rw [if_neg hc, if_neg (fun k => hc ⟨by omega, k.2⟩)]
theorem withL_app (A B : List Sp) : withL (A ++ B) = withL A ++ withL B := by unfold withL; rw [List.filter_append]
theorem allR_eq {s : Sc} (h : s.Ok) (m : Int) : allR s m s.gaps = s.all m := by
  have key : ∀ L : List Sp, (∀ g ∈ L, g ∈ s.gaps) → withL (L.map (refOf s m)) = withL (L.map (s.lostOf m)) := by
    intro L
    induction L with
    | nil => intro _; rfl
    | cons g l ih =>
      intro hL
      rw [List.map_cons, List.map_cons, show refOf s m g :: l.map (refOf s m) = [refOf s m g] ++ l.map (refOf s m) from rfl, show s.lostOf m g :: l.map (s.lostOf m) = [s.lostOf m g] ++ l.map (s.lostOf m) from rfl, withL_app, withL_app, refOf_one h (hL g List.mem_cons_self), ih (fun x hx => hL x (List.mem_cons_of_mem _ hx))]
  exact key s.gaps (fun g hg => hg)
theorem allR_snoc (s : Sc) (m : Int) (L : List Sp) (x : Sp) : allR s m (L ++ [x]) = allR s m L ++ withL [refOf s m x] := by
  unfold allR
  rw [List.map_append, withL_app]
  rfl
theorem allR_len (s : Sc) (m : Int) (L : List Sp) : (allR s m L).length ≤ L.length := by
  unfold allR withL
  have := List.length_filter_le (fun x : Sp => decide (x.1 < x.2)) (L.map (refOf s m))
  rw [List.length_map] at this
  exact this
end Go.Proofs.Ytncjeleabpodaaa
