/- The scoreboard's laws, plain: draining, behind a timeout, three segments. -/
import Derived.Test.YtncjeleabpodaaaScLaw
namespace Go.Proofs.Ytncjeleabpodaaa
theorem canonB_nil : canonB [] = true := rfl
theorem mergedL_id {low e : Int} {L : List Sp} (h0 : 0 ≤ low) (h : canonF e L = true) (hm : ∀ i, Mem i L → low ≤ i) : mergedL low L = L := by
  obtain ⟨a, b⟩ := mergedL_spec h0 (canonF_ok h)
  exact canonF_unique a h (fun i => by rw [b]; exact ⟨fun k => k.2, fun k => ⟨hm i k, k⟩⟩)
theorem mergedL_out {low e : Int} {L : List Sp} (h0 : 0 ≤ low) (h : canonF e L = true) (hm : ∀ i, Mem i L → i < low) : mergedL low L = [] := by
  obtain ⟨a, b⟩ := mergedL_spec h0 (canonF_ok h)
  exact canonF_unique a canonB_nil (fun i => by rw [b]; exact ⟨fun k => by have := hm i k.2; omega, fun k => (mem_nil k).elim⟩)
theorem canonB_oneL {a b : Int} (h0 : 0 ≤ a) (h1 : b ≤ 1099511627776) : canonB (one a b) = true := by
  unfold one
  split
  · exact canonB_one.2 ⟨h0, by assumption, h1⟩
  · rfl
theorem gapsL_empty {a b : Int} (h0 : 0 ≤ a) (h1 : b ≤ 1099511627776) : gapsL [] (a, b) = one a b := by
  by_cases h : a < b
  · unfold gapsL
    rw [if_pos (takesB_iff.2 ⟨rfl, h0, h, h1⟩)]
    rfl
  · unfold gapsL one
    rw [if_neg (by rw [takesB_iff]; exact fun k => h k.2.2.1), if_neg h]
theorem gaps_empty {s : Sc} (h : s.Ok) (hk : s.sk = []) : s.gaps = one s.una s.next := by
  unfold Sc.gaps
  rw [hk]
  exact gapsL_empty h.u0 h.n40
theorem lostOf_empty {s : Sc} (hk : s.sk = []) {m : Int} (hm : 1 ≤ m) (g : Sp) : s.lostOf m g = (g.1, max g.1 (min g.2 s.mark)) := by
  unfold Sc.lostOf
  rw [hk, if_pos ⟨by show (0 : Int) / 3 < m; omega, by show (0 : Nat) < 3; decide⟩]
theorem all_empty {s : Sc} (h : s.Ok) (hk : s.sk = []) {m : Int} (hm : 1 ≤ m) : s.all m = one s.una (min s.next s.mark) := by
  unfold Sc.all
  rw [gaps_empty h hk]
  unfold one
  by_cases hlt : s.una < s.next
  · rw [if_pos hlt, List.map_cons, List.map_nil, withL_cons, lostOf_empty hk hm]
    dsimp only
    by_cases h2 : s.una < min s.next s.mark
    · rw [if_pos h2, if_pos (by omega), show max s.una (min s.next s.mark) = min s.next s.mark by omega]; rfl
    · rw [if_neg h2, if_neg (by omega)]; rfl
  · rw [if_neg hlt, if_neg (by omega)]; rfl
theorem wthF_nil (b : List Sp) : wthF [] b = [] := rfl
theorem wthF_right {e : Int} {a : List Sp} (h : canonF e a = true) : wthF a [] = a := by
  induction a generalizing e with
  | nil => rfl
  | cons x l ih =>
    rw [canonF_cons] at h
    show gapsF x.2 x.1 [] ++ wthF l [] = _
    rw [ih h.2]
    show one x.1 x.2 ++ l = _
    unfold one
    rw [if_pos h.1.2.2.1]
    rfl
theorem lost_empty {s : Sc} (h : s.Ok) (hk : s.sk = []) (hg : s.ag = []) {m : Int} (hm : 1 ≤ m) : s.lost m = one s.una (min s.next s.mark) := by
  rw [lost_eq hm, all_empty h hk hm, hg]
  exact wthF_right (e := -1) (canonB_oneL h.u0 (by have := h.n40; omega))
theorem countF_one {a b : Int} (h : a ≤ b) : countF (one a b) = b - a := by
  unfold one
  split
  · show b - a + 0 = _; omega
  · show 0 = _; omega
theorem pipe_empty {s : Sc} (h : s.Ok) (hk : s.sk = []) (hg : s.ag = []) {m : Int} (hm : 1 ≤ m) : s.pipe m = s.next - max s.una (min s.next s.mark) := by
  have := h.un
  rw [pipe_eq s hm, all_empty h hk hm, gaps_empty h hk, hg, countF_one h.un]
  by_cases hlt : s.una ≤ min s.next s.mark
  · rw [countF_one hlt]; show 0 + _ = _; omega
  · unfold one; rw [if_neg (by omega)]; show 0 + (_ - 0) = _; omega
/-- Offsets that are acknowledged or sacked are so from then on. -/
theorem ackN_nonneg {s : Sc} (h : s.Ok) {una : Int} {l : List Sp} (hb : s.ackB una l = true) (hu : una ≤ s.una) : 0 ≤ s.ackN una l ∧ s.ackN una l = countF (s.ackS una l).sk - countF s.sk := by
  have hmx : max s.una una = s.una := by omega
  have e : s.ackN una l = countF (s.ackS una l).sk - countF s.sk := by
    unfold Sc.ackN
    rw [if_pos hb, hmx]
    omega
  refine ⟨?_, e⟩
  rw [e]
  have h' := h.ackS hb
  obtain ⟨c1, c2⟩ := h.ack_sk hb
  have hn := h.nat
  have a1 := countF_crd h.csk (n := s.next.toNat) (fun i hi => by rw [hn]; exact (h.msk i hi).2)
  have a2 := countF_crd c1 (n := s.next.toNat) (fun i hi => by rw [hn]; exact (h'.msk i hi).2)
  rw [a1, a2]
  have := crd_le (n := s.next.toNat) (P := fun i => Mem i s.sk) (Q := fun i => Mem i (s.ackS una l).sk) (fun i hi => (c2 i).2 ⟨by have := h.msk i hi; omega, .inl hi⟩)
  omega
/-- Everything is acknowledged. -/
theorem ack_all {s : Sc} (h : s.Ok) : s.ackB s.next [] = true ∧ s.ackS s.next [] = { s with una := s.next, sk := [], ag := [] } ∧ s.ackN s.next [] = s.next - s.una - countF s.sk := by
  have hu := h.u0
  have hn := h.un
  have hb : s.ackB s.next [] = true := Sc.ackB_iff.2 ⟨⟨by omega, by omega⟩, fun x hx => by cases hx⟩
  have hmx : max s.una s.next = s.next := by omega
  have e1 : mergedL s.next (s.sk ++ []) = [] := by rw [List.append_nil]; exact mergedL_out (by omega) h.csk (fun i hi => (h.msk i hi).2)
  have e2 : mergedL s.next s.ag = [] := mergedL_out (by omega) h.cag (fun i hi => (h.mag i hi).2.1)
  have e3 : s.ackS s.next [] = { s with una := s.next, sk := [], ag := [] } := by
    unfold Sc.ackS
    rw [hmx, e1, e2]
    rfl
  refine ⟨hb, e3, ?_⟩
  unfold Sc.ackN
  rw [if_pos hb, e3, hmx]
  show s.next + 0 - _ = _
  omega
theorem ack_none {s : Sc} (h : s.Ok) {u : Int} (h0 : 0 ≤ u) (h1 : u ≤ s.una) : s.ackB u [] = true ∧ s.ackN u [] = 0 ∧ s.ackS u [] = s := by
  have hn := h.un
  have hb : s.ackB u [] = true := Sc.ackB_iff.2 ⟨⟨h0, by omega⟩, fun x hx => by cases hx⟩
  have hmx : max s.una u = s.una := by omega
  have e1 : mergedL s.una (s.sk ++ []) = s.sk := by rw [List.append_nil]; exact mergedL_id h.u0 h.csk (fun i hi => (h.msk i hi).1)
  have e2 : mergedL s.una s.ag = s.ag := mergedL_id h.u0 h.cag (fun i hi => (h.mag i hi).1)
  have e3 : wthF s.ag s.sk = s.ag := by
    obtain ⟨d1, d2⟩ := wthF_spec (e := -1) (eb := -1) h.cag h.csk
    exact canonF_unique d1 h.cag (fun i => by rw [d2]; exact ⟨fun k => k.1, fun k => ⟨k, (h.mag i k).2.2⟩⟩)
  have e4 : s.ackS u [] = s := by unfold Sc.ackS; rw [hmx, e1, e2, e3]
  refine ⟨hb, ?_, e4⟩
  unfold Sc.ackN
  rw [if_pos hb, e4, hmx]
  omega
theorem mem_upL {c : Int} {L : List Sp} {e : Int} (h : canonF e L = true) {y : Sp} (hy : y ∈ upL c L) : y ∈ L ∧ c < y.2 := by
  induction L generalizing e with
  | nil => cases hy
  | cons x l ih =>
    rw [canonF_cons] at h
    rw [upL_cons] at hy
    split at hy
    · have := ih h.2 hy
      exact ⟨List.mem_cons_of_mem _ this.1, this.2⟩
    · rename_i hx
      rcases List.mem_cons.1 hy with rfl | hy
      · exact ⟨List.mem_cons_self, by omega⟩
      · refine ⟨List.mem_cons_of_mem _ hy, ?_⟩
        have := canonF_gt h.2 (show Mem y.1 l from ⟨y, hy, Int.le_refl _, (canonF_ok h.2 y hy).2.1⟩)
        have := (canonF_ok h.2 y hy).2.1
        omega
/-- A gap below the mark is lost. -/
theorem all_low {s : Sc} {m i : Int} (hg : Mem i s.gaps) (hi : i < s.mark) : Mem i (s.all m) := by
  obtain ⟨g, hg, h1, h2⟩ := hg
  refine ((all_spec s m).2 i).2 ⟨g, hg, h1, ?_⟩
  unfold Sc.lostOf
  split
  · dsimp only; omega
  · exact h2
/-- Where nothing at or above the mark is sacked, nothing at or above it is lost. -/
theorem all_high {s : Sc} (h : s.Ok) {m i : Int} (hm : 1 ≤ m) (hs : ∀ i, Mem i s.sk → i < s.mark) (ha : Mem i (s.all m)) : i < s.mark := by
  obtain ⟨g, hg, h1, h2⟩ := ((all_spec s m).2 i).1 ha
  by_cases hi : i < s.mark
  · exact hi
  · have hup : upL g.1 s.sk = [] := by
      cases hu : upL g.1 s.sk with
      | nil => rfl
      | cons y t =>
        have hy := mem_upL (c := g.1) (e := -1) h.csk (y := y) (by rw [hu]; exact List.mem_cons_self)
        have hyo := canonF_ok h.csk y hy.1
        have hlt := hyo.2.1
        have hmem : Mem (y.2 - 1) s.sk := ⟨y, hy.1, by omega, by omega⟩
        have hm1 := hs _ hmem
        have hgl := lostOf_spec s m (Int.le_of_lt (canonF_lt (gaps_canon s) hg))
        exact (((mem_gaps h).1 ⟨g, hg, by omega, by omega⟩).2 hmem).elim
    have e : s.lostOf m g = (g.1, max g.1 (min g.2 s.mark)) := by
      unfold Sc.lostOf
      rw [hup, if_pos ⟨by show (0 : Int) / 3 < m; omega, by decide⟩]
    rw [e] at h2
    dsimp only at h2
    omega
/-- Behind a timeout, new data and an acknowledgment of blocks below the mark: what is lost. -/
theorem after_lost {s : Sc} (h : s.Ok) {m : Int} (hm : 1 ≤ m) (hg : s.ag = []) (hs : ∀ i, Mem i s.sk → i < s.mark) : canonB (s.lost m) = true ∧ ∀ i, Mem i (s.lost m) ↔ (s.una ≤ i ∧ i < min s.next s.mark) ∧ ¬ Mem i s.sk := by
  obtain ⟨c, hl⟩ := lost_spec h hm
  refine ⟨c, fun i => ?_⟩
  rw [hl, hg]
  constructor
  · rintro ⟨k, -⟩
    have k2 := (mem_gaps h).1 (mem_all_gaps k)
    have k3 := all_high h hm hs k
    exact ⟨⟨k2.1.1, by omega⟩, k2.2⟩
  · rintro ⟨k, k2⟩
    exact ⟨all_low ((mem_gaps h).2 ⟨⟨k.1, by omega⟩, k2⟩) (by omega), fun k => mem_nil k⟩
theorem remF_spec {e : Int} {s : Sp} {l : List Sp} (hl : canonF e l = true) (hs : s.1 < s.2) : canonF e (remF s l) = true ∧ ∀ i, Mem i (remF s l) ↔ Mem i l ∧ ¬ (s.1 ≤ i ∧ i < s.2) := by
  induction l generalizing e with
  | nil => exact ⟨rfl, fun i => ⟨fun h => (mem_nil h).elim, fun h => (mem_nil h.1).elim⟩⟩
  | cons x l ih =>
    rw [canonF_cons] at hl
    obtain ⟨c1, c2⟩ := ih hl.2
    show canonF e (one x.1 (min x.2 s.1) ++ one (max x.1 s.2) x.2 ++ remF s l) = true ∧ ∀ i, Mem i (one x.1 (min x.2 s.1) ++ one (max x.1 s.2) x.2 ++ remF s l) ↔ _
    refine ⟨?_, fun i => ?_⟩
    · unfold one
      split
      · split
        · refine canonF_cons.2 ⟨⟨by omega, by omega, by assumption, by omega⟩, canonF_cons.2 ⟨⟨by dsimp only; omega, by dsimp only; omega, by assumption, by omega⟩, c1⟩⟩
        · refine canonF_cons.2 ⟨⟨by omega, by omega, by assumption, by omega⟩, canonF_mono c1 (by dsimp only; omega)⟩
      · split
        · refine canonF_cons.2 ⟨⟨by omega, by omega, by assumption, by omega⟩, c1⟩
        · exact canonF_mono c1 (by omega)
    · rw [mem_append, mem_append, mem_one, mem_one, c2, mem_cons]
      constructor
      · rintro ((k | k) | k)
        · exact ⟨.inl ⟨k.1, by omega⟩, by omega⟩
        · exact ⟨.inl ⟨by omega, k.2⟩, by omega⟩
        · exact ⟨.inr k.1, k.2⟩
      · rintro ⟨k | k, k2⟩
        · by_cases hi : i < s.1
          · exact .inl (.inl ⟨k.1, by omega⟩)
          · exact .inl (.inr ⟨by omega, k.2⟩)
        · exact .inr ⟨k, k2⟩
end Go.Proofs.Ytncjeleabpodaaa
