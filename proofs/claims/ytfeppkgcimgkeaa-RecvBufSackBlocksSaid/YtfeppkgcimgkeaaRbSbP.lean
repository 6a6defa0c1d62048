/- The reported blocks and the counts, in plain terms. -/
import Derived.Test.YtfeppkgcimgkeaaRbRep
import Derived.Test.YtfeppkgcimgkeaaRbFcP
namespace Go.Proofs.Ytfeppkgcimgkeaa
/-- A canonical list is known by its members. -/
theorem canonF_unique {e1 e2 : Int} {A B : List Sp} (hA : canonF e1 A = true) (hB : canonF e2 B = true) (h : ∀ i, Mem i A ↔ Mem i B) : A = B := by
  induction A generalizing e1 e2 B with
  | nil =>
    cases B with
    | nil => rfl
    | cons y t =>
      rw [canonF_cons] at hB
      exact (mem_nil ((h y.1).2 (mem_cons.2 (.inl ⟨Int.le_refl _, hB.1.2.2.1⟩)))).elim
  | cons x s ih =>
    cases B with
    | nil =>
      rw [canonF_cons] at hA
      exact (mem_nil ((h x.1).1 (mem_cons.2 (.inl ⟨Int.le_refl _, hA.1.2.2.1⟩)))).elim
    | cons y t =>
      rw [canonF_cons] at hA hB
      have gx : ∀ i, Mem i s → x.2 < i := fun i hi => canonF_gt hA.2 hi
      have gy : ∀ i, Mem i t → y.2 < i := fun i hi => canonF_gt hB.2 hi
      have k : ∀ i, (x.1 ≤ i ∧ i < x.2) ∨ Mem i s ↔ (y.1 ≤ i ∧ i < y.2) ∨ Mem i t := fun i => by rw [← mem_cons, ← mem_cons]; exact h i
      have e1 : x.1 = y.1 := by
        rcases (k x.1).1 (.inl (by omega)) with a | a
        · rcases (k y.1).2 (.inl (by omega)) with b | b
          · omega
          · have := gx _ b; omega
        · have := gy _ a
          rcases (k y.1).2 (.inl (by omega)) with b | b
          · omega
          · have := gx _ b; omega
      have e2 : x.2 = y.2 := by
        rcases (show x.2 < y.2 ∨ y.2 < x.2 ∨ x.2 = y.2 by omega) with a | a | a
        · rcases (k x.2).2 (.inl (by omega)) with b | b
          · omega
          · have := gx _ b; omega
        · rcases (k y.2).1 (.inl (by omega)) with b | b
          · omega
          · have := gy _ b; omega
        · exact a
      obtain rfl : x = y := Prod.ext e1 e2
      rw [ih hA.2 hB.2 (fun i => ?_)]
      constructor
      · intro hi
        have := gx i hi
        rcases (k i).1 (.inr hi) with b | b
        · omega
        · exact b
      · intro hi
        have := gy i hi
        rcases (k i).2 (.inr hi) with b | b
        · omega
        · exact b
theorem countF_gaps0 {t a e : Int} {l : List Sp} (h : canonF e l = true) (he : t ≤ a) : countF (gapsF t a l) = 0 := by
  induction l generalizing a e with
  | nil => rw [gapsF_nil, countF_one]; omega
  | cons x l ih =>
    rw [canonF_cons] at h
    show countF (if x.2 ≤ a then gapsF t a l else if t ≤ x.1 then one a t else one a x.1 ++ gapsF t x.2 l) = 0
    split
    · exact ih h.2 he
    · split
      · rw [countF_one]; omega
      · rw [countF_append, countF_one, ih h.2 (by omega)]; omega
/-- Where nothing lies between, the gaps begin later. -/
theorem countF_gaps_from {t a a' e : Int} {l : List Sp} (h : canonF e l = true) (h1 : a ≤ a') (h2 : a' ≤ t) (h3 : a' ≤ e) : countF (gapsF t a l) = (a' - a) + countF (gapsF t a' l) := by
  cases l with
  | nil => rw [gapsF_nil, gapsF_nil, countF_one, countF_one]; omega
  | cons x l =>
    rw [canonF_cons] at h
    show countF (if x.2 ≤ a then gapsF t a l else if t ≤ x.1 then one a t else one a x.1 ++ gapsF t x.2 l) = (a' - a) + countF (if x.2 ≤ a' then gapsF t a' l else if t ≤ x.1 then one a' t else one a' x.1 ++ gapsF t x.2 l)
    rw [if_neg (show ¬ x.2 ≤ a by omega), if_neg (show ¬ x.2 ≤ a' by omega)]
    split
    · rw [countF_one, countF_one]; omega
    · rw [countF_append, countF_append, countF_one, countF_one]; omega
/-- Adding adds what was missing. -/
theorem countF_add {e : Int} {s : Sp} {l : List Sp} (hl : canonF e l = true) (hs : s.1 < s.2) : countF (addF s l) = countF l + countF (gapsF s.2 s.1 l) := by
  induction l generalizing e s with
  | nil =>
    show s.2 - s.1 + 0 = 0 + countF (gapsF s.2 s.1 [])
    rw [gapsF_nil, countF_one]; omega
  | cons x l ih =>
    rw [canonF_cons] at hl
    show countF (if x.2 < s.1 then x :: addF s l else if s.2 < x.1 then s :: x :: l else addF (min s.1 x.1, max s.2 x.2) l) = x.2 - x.1 + countF l + countF (if x.2 ≤ s.1 then gapsF s.2 s.1 l else if s.2 ≤ x.1 then one s.1 s.2 else one s.1 x.1 ++ gapsF s.2 x.2 l)
    split
    · rw [if_pos (by omega)]
      show x.2 - x.1 + countF (addF s l) = _
      rw [ih hl.2 hs]; omega
    · split
      · rw [if_neg (by omega), if_pos (by omega), countF_one]
        show s.2 - s.1 + (x.2 - x.1 + countF l) = _
        omega
      · rw [ih hl.2 (s := (min s.1 x.1, max s.2 x.2)) (by dsimp only; omega)]
        dsimp only
        by_cases h1 : x.2 ≤ s.1
        · rw [if_pos h1, show max s.2 x.2 = s.2 by omega, show min s.1 x.1 = x.1 by omega, countF_gaps_from hl.2 (a' := x.2) (by omega) (by omega) (Int.le_refl _), show s.1 = x.2 by omega]
          omega
        · rw [if_neg h1]
          by_cases h2 : s.2 ≤ x.1
          · rw [if_pos h2, countF_one, show max s.2 x.2 = x.2 by omega, countF_gaps_from hl.2 (a' := x.2) (by omega) (by omega) (Int.le_refl _), countF_gaps0 hl.2 (Int.le_refl _)]
            omega
          · rw [if_neg h2, countF_append, countF_one]
            by_cases h3 : s.2 ≤ x.2
            · rw [show max s.2 x.2 = x.2 by omega, countF_gaps_from hl.2 (a' := x.2) (by omega) (by omega) (Int.le_refl _), countF_gaps0 hl.2 (Int.le_refl _), countF_gaps0 hl.2 h3]
              omega
            · rw [show max s.2 x.2 = s.2 by omega, countF_gaps_from hl.2 (a' := x.2) (by omega) (by omega) (Int.le_refl _)]
              omega
/-- All offsets that were received. -/
def allL (b : Bx) : List Sp := if b.nx = 0 then b.bl else (0, b.nx) :: b.bl
theorem allL_canon {b : Bx} (ok : b.Ok) : canonB (allL b) = true := by
  unfold allL canonB
  have h1 := ok.rd0; have h2 := ok.rdnx; have h3 := ok.nxend; have h4 := ok.small
  split
  · exact ok.canon
  · rw [canonF_cons]
    refine ⟨by dsimp only; omega, ?_⟩
    have hc := ok.canon
    unfold canonB at hc
    cases hb : b.bl with
    | nil => rfl
    | cons x t =>
      rw [hb] at hc
      rw [canonF_cons] at hc ⊢
      have := (ok.mem x.1 (by rw [hb]; exact mem_cons.2 (.inl (by omega)))).1
      exact ⟨by dsimp only; omega, hc.2⟩
theorem allL_mem {b : Bx} (ok : b.Ok) (i : Int) : Mem i (allL b) ↔ b.has i := by
  unfold allL Bx.has
  have h1 := ok.rd0; have h2 := ok.rdnx
  split
  · constructor
    · exact .inr
    · rintro (h | h)
      · omega
      · exact h
  · rw [mem_cons]
theorem allL_count {b : Bx} (ok : b.Ok) : countF (allL b) = b.nx + countF b.bl := by
  unfold allL
  have h1 := ok.rd0; have h2 := ok.rdnx
  split
  · omega
  · show b.nx - 0 + countF b.bl = _; omega
/-- What a piece adds to the received offsets. -/
theorem sack_put {b : Bx} (ok : b.Ok) (hrd : b.rd = 0) {off : Nat} (s : List UInt8) (h1 : off ≤ 1000) :
    (b.put off s).Ok ∧ (b.put off s).rd = 0 ∧ (b.put off s).ring.length = b.ring.length ∧
    allL (b.put off s) = (if (off : Int) < min ((off : Int) + (s.length : Int)) (b.ring.length : Int) then addL (allL b) ((off : Int), min ((off : Int) + (s.length : Int)) (b.ring.length : Int)) else allL b) ∧
    countF (allL (b.put off s)) = countF (allL b) + b.putN off s.length ∧
    ((off : Int) < min ((off : Int) + (s.length : Int)) (b.ring.length : Int) → (b.put off s).nx < off → ∃ x t, (b.put off s).rep = x :: t ∧ x.1 ≤ off ∧ off < x.2) := by
  have hmost := ok.most
  have hcl := allL_canon ok
  have hx0 := ok.rdnx
  have hhi : b.hi off s.length = min ((off : Int) + s.length) b.ring.length := by unfold Bx.hi; rw [hrd]; omega
  have hlo : b.lo off = max (off : Int) b.nx := rfl
  obtain ⟨p1, p2, p3, p4, p5⟩ := Bx.put_spec ok s (off := off) (by omega) (by omega)
  refine ⟨p1, p2.trans hrd, p3, ?_⟩
  by_cases hlt : (off : Int) < min ((off : Int) + s.length) b.ring.length
  · rw [if_pos hlt]
    have ht : takesB (allL b) ((off : Int), min ((off : Int) + s.length) b.ring.length) = true := takesB_iff.2 ⟨hcl, by dsimp only; omega⟩
    obtain ⟨ac, am⟩ := addL_spec ht
    have e1 : allL (b.put off s) = addL (allL b) ((off : Int), min ((off : Int) + s.length) b.ring.length) := by
      refine canonF_unique (allL_canon p1) ac (fun i => ?_)
      rw [allL_mem p1, p5, am, allL_mem ok, hrd]
      dsimp only
      constructor
      · rintro (h | h)
        · exact .inr h
        · exact .inl (by omega)
      · rintro (h | h)
        · exact .inr (by omega)
        · exact .inl h
    refine ⟨e1, ?_, fun _ hgt => ?_⟩
    · rw [e1]
      unfold addL
      rw [if_pos ht, countF_add hcl hlt]
      congr 1
      dsimp only
      have hcb := ok.canon
      unfold canonB at hcb
      by_cases hle : b.hi off s.length ≤ b.lo off
      · rw [Bx.putN_zero hle]
        rw [hhi, hlo] at hle
        unfold allL
        rw [if_neg (by omega)]
        show countF (if b.nx ≤ off then _ else if min ((off : Int) + s.length) b.ring.length ≤ 0 then _ else one (off : Int) 0 ++ gapsF (min ((off : Int) + s.length) b.ring.length) b.nx b.bl) = 0
        rw [if_neg (by omega), if_neg (by omega), countF_append, countF_one, countF_gaps0 hcb (by omega)]
        omega
      · rw [Bx.putN_eq ok (by omega) (by omega) (by omega), hhi, hlo]
        rw [hhi, hlo] at hle
        unfold allL
        by_cases hz : b.nx = 0
        · rw [if_pos hz, show max (off : Int) b.nx = off by omega]
        · rw [if_neg hz]
          show countF (if b.nx ≤ off then gapsF (min ((off : Int) + s.length) b.ring.length) off b.bl else if min ((off : Int) + s.length) b.ring.length ≤ 0 then _ else one (off : Int) 0 ++ gapsF (min ((off : Int) + s.length) b.ring.length) b.nx b.bl) = _
          by_cases hn : b.nx ≤ off
          · rw [if_pos hn, show max (off : Int) b.nx = off by omega]
          · rw [if_neg hn, if_neg (by omega), countF_append, countF_one, show max (off : Int) b.nx = b.nx by omega]
            omega
    · have hnw : (b.put off s).nw = off := by
        unfold Bx.put
        rw [if_neg (by omega), if_neg (by rw [hhi, hlo]; omega)]
        show b.lo off = off
        rw [hlo]; omega
      have hh : (b.put off s).has off := (p5 off).2 (.inr (by rw [hrd]; omega))
      rcases hh with hh | ⟨x, hx, hxo⟩
      · omega
      · have hf : x ∈ (b.put off s).bl.filter (isNew (b.put off s).nw) := by
          rw [List.mem_filter, hnw]
          exact ⟨hx, by unfold isNew; rw [decide_eq_true_iff]; exact hxo⟩
        unfold Bx.rep orderL
        cases hfl : (b.put off s).bl.filter (isNew (b.put off s).nw) with
        | nil => rw [hfl] at hf; cases hf
        | cons y t =>
          have hy : isNew (b.put off s).nw y = true := (List.mem_filter.1 (by rw [hfl]; exact List.mem_cons_self : y ∈ (b.put off s).bl.filter (isNew (b.put off s).nw))).2
          unfold isNew at hy
          rw [hnw, decide_eq_true_iff] at hy
          rw [List.cons_append]
          exact ⟨y, _, rfl, hy⟩
  · rw [if_neg hlt]
    have hle : b.hi off s.length ≤ b.lo off := by rw [hhi, hlo]; omega
    have e : b.put off s = b := by
      unfold Bx.put
      rw [if_neg (by omega), if_pos hle]
    rw [e, Bx.putN_zero hle]
    exact ⟨rfl, by omega, fun h => (hlt h).elim⟩
theorem canonF_sublist {e : Int} {bl P : List Sp} (h : canonF e bl = true) (hP : P.Sublist bl) : canonF e P = true := by
  induction bl generalizing e P with
  | nil => rw [List.sublist_nil.1 hP]; exact h
  | cons y t ih =>
    rw [canonF_cons] at h
    rcases List.sublist_cons_iff.1 hP with hP | ⟨P', rfl, hP'⟩
    · exact canonF_mono (ih h.2 hP) (by omega)
    · rw [canonF_cons]; exact ⟨h.1, ih h.2 hP'⟩
theorem canonF_el {e : Int} {bl : List Sp} (h : canonF e bl = true) {x : Sp} (hx : x ∈ bl) : 0 ≤ x.1 ∧ x.1 < x.2 ∧ x.2 ≤ 1099511627776 := by
  induction bl generalizing e with
  | nil => cases hx
  | cons y t ih =>
    rw [canonF_cons] at h
    rcases List.mem_cons.1 hx with rfl | hx
    · exact ⟨h.1.1, h.1.2.2⟩
    · exact ih h.2 hx
/-- A block that is joined to others of the same canonical list keeps apart. -/
theorem addF_sub {e : Int} {bl : List Sp} (h : canonF e bl = true) {P : List Sp} (hP : P.Sublist bl) {x : Sp} (hx : x ∈ bl) (hn : x ∉ P) : (addF x P).Sublist bl ∧ (addF x P).length = P.length + 1 ∧ ∀ y ∈ addF x P, y = x ∨ y ∈ P := by
  induction bl generalizing e P with
  | nil => cases hx
  | cons y t ih =>
    rw [canonF_cons] at h
    have hgt : ∀ z ∈ t, y.2 < z.1 := (canonF_pairwise h.2).2
    rcases List.sublist_cons_iff.1 hP with hPt | ⟨P', rfl, hP'⟩
    · rcases List.mem_cons.1 hx with rfl | hx
      · have hadd : addF x P = x :: P := by
          cases P with
          | nil => rfl
          | cons p P =>
            have hp := hgt p (hPt.subset List.mem_cons_self)
            have hpv := canonF_el h.2 (hPt.subset List.mem_cons_self)
            show (if p.2 < x.1 then p :: addF x P else if x.2 < p.1 then x :: p :: P else addF (min x.1 p.1, max x.2 p.2) P) = _
            rw [if_neg (by omega), if_pos hp]
        rw [hadd]
        exact ⟨hPt.cons_cons x, by simp, fun z hz => List.mem_cons.1 hz⟩
      · obtain ⟨a, b, c⟩ := ih h.2 hPt hx hn
        exact ⟨a.cons y, b, c⟩
    · have hxy : x ≠ y := fun e => hn (by rw [e]; exact List.mem_cons_self)
      rcases List.mem_cons.1 hx with e | hx
      · exact (hxy e).elim
      · have hp := hgt x hx
        obtain ⟨a, b, c⟩ := ih h.2 hP' hx (fun k => hn (List.mem_cons_of_mem _ k))
        have e1 : addF x (y :: P') = y :: addF x P' := by
          show (if y.2 < x.1 then y :: addF x P' else if x.2 < y.1 then x :: y :: P' else addF (min x.1 y.1, max x.2 y.2) P') = _
          rw [if_pos hp]
        rw [e1]
        refine ⟨a.cons_cons y, by simp [b], fun z hz => ?_⟩
        rcases List.mem_cons.1 hz with rfl | hz
        · exact .inr List.mem_cons_self
        · rcases c z hz with g | g
          · exact .inl g
          · exact .inr (List.mem_cons_of_mem _ g)
/-- What the inner loop keeps: the first j reported blocks have been joined. -/
structure SackI (b : Bx) (j : Nat) (P : List Sp) : Prop where
  sub : P.Sublist b.bl
  len : P.length = j
  from_ : ∀ x ∈ P, x ∈ b.rep.take j
theorem SackI.start (b : Bx) : SackI b 0 [] := ⟨List.nil_sublist _, rfl, fun x hx => by cases hx⟩
theorem rep_nodup {b : Bx} (ok : b.Ok) : b.rep.Nodup := by
  have h1 : (orderL b.nw b.bl).Nodup := by
    have := orderL_sorted b.nw (e := -1) ok.canon
    refine this.imp (fun {x y} hxy => ?_)
    rintro rfl
    rw [(swoB b.nw).irrefl] at hxy
    cases hxy
  exact h1.sublist (List.take_sublist _ _)
theorem SackI.canon {b : Bx} (ok : b.Ok) {j : Nat} {P : List Sp} (h : SackI b j P) : canonB P = true := canonF_sublist ok.canon h.sub
theorem SackI.step {b : Bx} (ok : b.Ok) {j : Nat} {P : List Sp} (h : SackI b j P) (hj : j < b.rep.length) : SackI b (j + 1) (addL P b.rep[j]) := by
  have hx : b.rep[j] ∈ b.bl := Bx.rep_mem (List.getElem_mem hj)
  have hn : b.rep[j] ∉ P := by
    intro hk
    have := h.from_ _ hk
    obtain ⟨i, hi, e⟩ := List.mem_iff_getElem.1 this
    rw [List.getElem_take] at e
    rw [List.length_take] at hi
    have hnd := (List.pairwise_iff_getElem.1 (rep_nodup ok)) i j (by omega) hj (by omega)
    exact hnd e
  have hv := canonF_el ok.canon hx
  have ht : takesB P b.rep[j] = true := takesB_iff.2 ⟨h.canon ok, hv⟩
  obtain ⟨a1, a2, a3⟩ := addF_sub ok.canon h.sub hx hn
  have hadd : addL P b.rep[j] = addF b.rep[j] P := by unfold addL; rw [if_pos ht]
  rw [hadd]
  refine ⟨a1, by rw [a2, h.len], fun y hy => ?_⟩
  rw [List.take_succ_eq_append_getElem hj, List.mem_append]
  rcases a3 y hy with rfl | hy
  · exact .inr (by simp)
  · exact .inl (h.from_ y hy)
/-- Behind the inner loop: fewer than three blocks are all of them. -/
theorem SackI.all {b : Bx} {P : List Sp} (h : SackI b b.rep.length P) (h3 : b.rep.length < 3) : P = b.bl := by
  have := Bx.rep_length b
  exact h.sub.eq_of_length (by rw [h.len]; omega)
/-- Each reported block lies beyond nx and in the window, and is contained in what was received. -/
theorem rep_ok {b : Bx} (ok : b.Ok) (hrd : b.rd = 0) {x : Sp} (hx : x ∈ b.rep) : b.nx < x.1 ∧ x.2 ≤ b.ring.length ∧ x.1 < x.2 ∧ hasB (allL b) x = true := by
  have hb := Bx.rep_mem hx
  have hv := canonF_el ok.canon hb
  have m1 := ok.mem x.1 ⟨x, hb, by omega⟩
  have m2 := ok.mem (x.2 - 1) ⟨x, hb, by omega⟩
  refine ⟨m1.1, by rw [hrd] at m2; omega, hv.2.1, ?_⟩
  unfold hasB
  rw [Bool.and_eq_true, takesB_iff, List.any_eq_true]
  refine ⟨⟨allL_canon ok, hv⟩, x, ?_, by simp⟩
  unfold allL
  split
  · exact hb
  · exact List.mem_cons_of_mem _ hb
end Go.Proofs.Ytfeppkgcimgkeaa
