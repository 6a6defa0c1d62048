/- ScoreboardThreeSegments, plain. -/
import Derived.Test.YtncjeleabpodaaaScLaw2
namespace Go.Proofs.Ytncjeleabpodaaa
theorem canonF_sep {e : Int} {L : List Sp} (h : canonF e L = true) {x y : Sp} (hx : x ∈ L) (hy : y ∈ L) : x = y ∨ x.2 < y.1 ∨ y.2 < x.1 := by
  induction L generalizing e with
  | nil => cases hx
  | cons z l ih =>
    rw [canonF_cons] at h
    have far : ∀ v ∈ l, z.2 < v.1 := fun v hv => canonF_gt h.2 (show Mem v.1 l from ⟨v, hv, Int.le_refl _, (canonF_ok h.2 v hv).2.1⟩)
    rcases List.mem_cons.1 hx with rfl | hx'
    · rcases List.mem_cons.1 hy with rfl | hy'
      · exact .inl rfl
      · exact .inr (.inl (far y hy'))
    · rcases List.mem_cons.1 hy with rfl | hy'
      · exact .inr (.inr (far x hx'))
      · exact ih h.2 hx' hy'
/-- A span that meets an interval of members holds all of it. -/
theorem canonF_holds {e : Int} {L : List Sp} (h : canonF e L = true) {a b : Int} (hm : ∀ i, a ≤ i → i < b → Mem i L) {x : Sp} (hx : x ∈ L) {p : Int} (h1 : a ≤ p) (h2 : p < b) (h3 : x.1 ≤ p) (h4 : p < x.2) : x.1 ≤ a ∧ b ≤ x.2 := by
  have hok := canonF_ok h x hx
  constructor
  · rcases Int.lt_or_le a x.1 with k | k
    · obtain ⟨y, hy, q1, q2⟩ := hm (x.1 - 1) (by omega) (by omega)
      rcases canonF_sep h hx hy with rfl | r | r <;> omega
    · exact k
  · rcases Int.lt_or_le x.2 b with k | k
    · obtain ⟨y, hy, q1, q2⟩ := hm x.2 (by omega) k
      rcases canonF_sep h hx hy with rfl | r | r <;> omega
    · exact k
theorem len_le {m : Int} (_hm : 1 ≤ m) {L : List Sp} (h : ∀ x ∈ L, m ≤ x.2 - x.1) : (L.length : Int) * m ≤ countF L := by
  induction L with
  | nil => simp [countF]
  | cons x l ih =>
    have h1 := ih (fun y hy => h y (List.mem_cons_of_mem _ hy))
    have h2 := h x List.mem_cons_self
    rw [List.length_cons, show ((l.length + 1 : Nat) : Int) = (l.length : Int) + 1 by omega, Int.add_mul, Int.one_mul]
    show _ ≤ x.2 - x.1 + countF l
    omega
/-- What the loop of ScoreboardThreeSegments keeps: L are the segments that were not sacked. -/
structure TsI (m : Int) (L : List Int) (s : Sc) : Prop where
  ok : s.Ok
  una : s.una = 0
  next : s.next = 5 * m
  mark : s.mark = 0
  ag : s.ag = []
  mem : ∀ x, Mem x s.sk ↔ (m ≤ x ∧ x < 5 * m) ∧ ¬ ∃ j ∈ L, j * m ≤ x ∧ x < j * m + m
  cnt : countF s.sk = (4 - (L.length : Int)) * m
  wide : ∀ x ∈ s.sk, m ≤ x.2 - x.1
  four : ∀ j ∈ L, j = 1 ∨ j = 2 ∨ j = 3 ∨ j = 4
  nodup : L.Nodup
  len : L.length ≤ 4
theorem TsI.start {m : Int} (h1 : 1 ≤ m) (h2 : m ≤ 100) : TsI m [1, 2, 3, 4] (sc0.sent (5 * m)) ∧ sc0.sentE (5 * m) = 0 := by
  have hb : sc0.sentB (5 * m) = true := by unfold Sc.sentB; rw [decide_eq_true_iff]; exact ⟨by show 0 ≤ _; omega, by omega⟩
  have e : sc0.sent (5 * m) = ⟨0, 5 * m, 0, [], []⟩ := by unfold Sc.sent; rw [if_pos hb]; rfl
  refine ⟨?_, by unfold Sc.sentE; rw [if_pos hb]⟩
  have hok := sc0_ok.sent (5 * m)
  rw [e] at hok ⊢
  refine ⟨hok, rfl, rfl, rfl, rfl, fun x => ⟨fun h => (mem_nil h).elim, fun ⟨h, k⟩ => (k ?_).elim⟩, by simp [countF], fun x hx => (by cases hx), by simp, by decide, by decide⟩
  rcases (show (x < 2 * m) ∨ (2 * m ≤ x ∧ x < 3 * m) ∨ (3 * m ≤ x ∧ x < 4 * m) ∨ 4 * m ≤ x by omega) with q | q | q | q
  · exact ⟨1, by simp, by omega⟩
  · exact ⟨2, by simp, by omega⟩
  · exact ⟨3, by simp, by omega⟩
  · exact ⟨4, by simp, by omega⟩
theorem seg_apart {m x j j' : Int} (_hm : 1 ≤ m) (h : j = 1 ∨ j = 2 ∨ j = 3 ∨ j = 4) (h' : j' = 1 ∨ j' = 2 ∨ j' = 3 ∨ j' = 4) (k : j * m ≤ x ∧ x < j * m + m) (k' : j' * m ≤ x ∧ x < j' * m + m) : j = j' := by
  rcases h with rfl | rfl | rfl | rfl <;> rcases h' with rfl | rfl | rfl | rfl <;> first | rfl | (exfalso; omega)
theorem mem_split {L : List Int} {k : Nat} (h : k < L.length) (j' : Int) : j' ∈ L ↔ j' = L[k] ∨ j' ∈ L.take k ++ L.drop (k + 1) := by
  have e : L = L.take k ++ L[k] :: L.drop (k + 1) := by rw [← List.drop_eq_getElem_cons h, List.take_append_drop]
  constructor
  · intro hj
    rw [e] at hj
    rcases List.mem_append.1 hj with q | q
    · exact .inr (List.mem_append_left _ q)
    · rcases List.mem_cons.1 q with q | q
      · exact .inl q
      · exact .inr (List.mem_append_right _ q)
  · rintro (q | q)
    · rw [q]; exact List.getElem_mem h
    · rcases List.mem_append.1 q with q | q
      · exact List.mem_of_mem_take q
      · exact List.mem_of_mem_drop q
theorem nodup_split {L : List Int} {k : Nat} (h : k < L.length) (hn : L.Nodup) : (L.take k ++ L.drop (k + 1)).Nodup ∧ L[k] ∉ L.take k ++ L.drop (k + 1) := by
  have e : L = L.take k ++ L[k] :: L.drop (k + 1) := by rw [← List.drop_eq_getElem_cons h, List.take_append_drop]
  rw [e] at hn
  have h2 := (List.perm_middle.nodup_iff).1 hn
  rw [List.nodup_cons] at h2
  exact ⟨h2.2, h2.1⟩
theorem TsI.step {m : Int} (h1 : 1 ≤ m) (h2 : m ≤ 100) {L : List Int} {s : Sc} (h : TsI m L s) {k : Nat} (hk : k < L.length) :
    TsI m (L.take k ++ L.drop (k + 1)) (s.acked 0 [(L[k] * m, L[k] * m + m)]) ∧ s.ackE 0 [(L[k] * m, L[k] * m + m)] = 0 ∧ s.ackN 0 [(L[k] * m, L[k] * m + m)] = m := by
  have hj := h.four L[k] (List.getElem_mem hk)
  have hms := mem_split hk
  obtain ⟨hnd, hnj⟩ := nodup_split hk h.nodup
  have hll : (L.take k ++ L.drop (k + 1)).length = L.length - 1 := by rw [List.length_append, List.length_take, List.length_drop]; omega
  have hjL : L[k] ∈ L := List.getElem_mem hk
  generalize L[k] = j at *
  generalize L.take k ++ L.drop (k + 1) = L' at *
  have hjm : 0 ≤ j * m ∧ j * m + m ≤ 5 * m ∧ m ≤ j * m := by rcases hj with rfl | rfl | rfl | rfl <;> omega
  have hB : s.ackB 0 [(j * m, j * m + m)] = true := Sc.ackB_iff.2 ⟨⟨Int.le_refl _, by rw [h.next]; omega⟩, fun x hx => by rw [List.mem_singleton.1 hx]; exact Sc.inB_iff.2 ⟨hjm.1, by dsimp only; omega, by rw [h.next]; exact hjm.2.1⟩⟩
  have e : s.acked 0 [(j * m, j * m + m)] = s.ackS 0 [(j * m, j * m + m)] := by unfold Sc.acked; rw [if_pos hB]
  have ho := h.ok.ackS hB
  obtain ⟨c1, c2⟩ := h.ok.ack_sk hB
  have hmx : max s.una 0 = 0 := by rw [h.una]; rfl
  have hsk : ∀ i, Mem i (s.ackS 0 [(j * m, j * m + m)]).sk ↔ Mem i s.sk ∨ (j * m ≤ i ∧ i < j * m + m) := fun i => by
    rw [c2, hmx, mem_cons]
    constructor
    · rintro ⟨q, q2 | q2 | q2⟩
      · exact .inl q2
      · exact .inr q2
      · exact (mem_nil q2).elim
    · rintro (q | q)
      · exact ⟨by have := (h.mem i).1 q; omega, .inl q⟩
      · exact ⟨by omega, .inr (.inl q)⟩
  have hdis : ∀ i, Mem i s.sk → ¬ (j * m ≤ i ∧ i < j * m + m) := fun i q q2 => ((h.mem i).1 q).2 ⟨j, hjL, q2⟩
  have hn := h.ok.nat
  have a1 := countF_crd h.ok.csk (n := s.next.toNat) (fun i hi => by rw [hn]; exact (h.ok.msk i hi).2)
  have a2 := countF_crd c1 (n := s.next.toNat) (fun i hi => by rw [hn]; exact (ho.msk i hi).2)
  rw [crd_or hsk hdis, ← a1, crd_iv hjm.1 (by omega), hn, h.next] at a2
  have hcnt : countF (s.ackS 0 [(j * m, j * m + m)]).sk = countF s.sk + m := by rw [a2]; omega
  have hwide : ∀ x ∈ (s.ackS 0 [(j * m, j * m + m)]).sk, m ≤ x.2 - x.1 := fun x hx => by
    have hxo := canonF_ok c1 x hx
    rcases (hsk x.1).1 ⟨x, hx, Int.le_refl _, hxo.2.1⟩ with q | q
    · obtain ⟨y, hy, q1, q2⟩ := q
      have := canonF_holds c1 (a := y.1) (b := y.2) (fun i r1 r2 => (hsk i).2 (.inl ⟨y, hy, r1, r2⟩)) hx q1 q2 (Int.le_refl _) hxo.2.1
      have := h.wide y hy
      omega
    · have := canonF_holds c1 (a := j * m) (b := j * m + m) (fun i r1 r2 => (hsk i).2 (.inr ⟨r1, r2⟩)) hx q.1 q.2 (Int.le_refl _) hxo.2.1
      omega
  have hlen := h.len
  refine ⟨?_, by unfold Sc.ackE; rw [if_pos hB], ?_⟩
  · rw [e]
    refine ⟨ho, hmx, h.next, h.mark, ?_, fun x => ?_, ?_, hwide, fun j' hj' => h.four j' ((hms j').2 (.inr hj')), hnd, by omega⟩
    · show wthF (mergedL _ s.ag) _ = []
      rw [h.ag]; rfl
    · rw [hsk, h.mem]
      constructor
      · rintro (⟨q, q2⟩ | q)
        · exact ⟨q, fun ⟨j', r1, r2⟩ => q2 ⟨j', (hms j').2 (.inr r1), r2⟩⟩
        · refine ⟨by omega, fun ⟨j', r1, r2⟩ => ?_⟩
          have := seg_apart h1 hj (h.four j' ((hms j').2 (.inr r1))) q r2
          subst this
          exact hnj r1
      · rintro ⟨q, q2⟩
        by_cases q3 : j * m ≤ x ∧ x < j * m + m
        · exact .inr q3
        · refine .inl ⟨q, fun ⟨j', r1, r2⟩ => ?_⟩
          rcases (hms j').1 r1 with r | r
          · rw [r] at r2; exact q3 r2
          · exact q2 ⟨j', r, r2⟩
    · rw [hcnt, h.cnt, hll]
      have : ((L.length - 1 : Nat) : Int) = (L.length : Int) - 1 := by omega
      rw [this, show (4 - ((L.length : Int) - 1)) = (4 - (L.length : Int)) + 1 by omega, Int.add_mul, Int.one_mul]
  · unfold Sc.ackN
    rw [if_pos hB, hmx, hcnt, h.una]
    omega
theorem upL_le {c e : Int} {L : List Sp} (h : canonF e L = true) : countF (upL c L) ≤ countF L ∧ (upL c L).length ≤ L.length := by
  induction L generalizing e with
  | nil => exact ⟨Int.le_refl _, Nat.le_refl _⟩
  | cons x l ih =>
    rw [canonF_cons] at h
    have := ih h.2
    rw [upL_cons]
    split
    · refine ⟨?_, by rw [List.length_cons]; omega⟩
      show _ ≤ x.2 - x.1 + countF l
      omega
    · exact ⟨Int.le_refl _, Nat.le_refl _⟩
theorem upL_zero {e : Int} {L : List Sp} (h : canonF e L = true) : upL 0 L = L := by
  cases L with
  | nil => rfl
  | cons x l => rw [canonF_cons] at h; rw [upL_cons, if_neg (by omega)]
/-- Fewer than three are sacked: nothing is lost. -/
theorem TsI.few {m : Int} (h1 : 1 ≤ m) {L : List Int} {s : Sc} (h : TsI m L s) (hl : 2 ≤ L.length) : s.lost m = [] := by
  have hlen := len_le h1 h.wide
  have hcnt := h.cnt
  have hl4 := h.len
  have hle : countF s.sk ≤ 2 * m := by
    rcases (show L.length = 2 ∨ L.length = 3 ∨ L.length = 4 by omega) with q | q | q <;> rw [q] at hcnt <;> simp at hcnt <;> omega
  have hsl : s.sk.length ≤ 2 := by
    rcases Nat.lt_or_ge 2 s.sk.length with q | q
    · have h3 : (3 : Int) * m ≤ (s.sk.length : Int) * m := Int.mul_le_mul_of_nonneg_right (by omega) (by omega)
      omega
    · exact q
  have hall : s.all m = [] := by
    have hnone : ∀ i, ¬ Mem i (s.all m) := fun i hi => by
      obtain ⟨g, hg, q1, q2⟩ := ((all_spec s m).2 i).1 hi
      have hgo := canonF_ok (gaps_canon s) g hg
      obtain ⟨u1, u2⟩ := upL_le (c := g.1) h.ok.csk
      have e : s.lostOf m g = (g.1, max g.1 (min g.2 s.mark)) := by unfold Sc.lostOf; rw [if_pos ⟨by omega, by omega⟩]
      rw [e, h.mark] at q2
      have := hgo.1
      dsimp only at q2
      omega
    cases hA : s.all m with
    | nil => rfl
    | cons x l =>
      have hx := canonF_ok (all_spec s m).1 x (by rw [hA]; exact List.mem_cons_self)
      exact (hnone x.1 ⟨x, by rw [hA]; exact List.mem_cons_self, Int.le_refl _, hx.2.1⟩).elim
  rw [lost_eq h1, hall]
  rfl
/-- Three or more are sacked: the first segment is lost. -/
theorem TsI.many {m : Int} (h1 : 1 ≤ m) {L : List Int} {s : Sc} (h : TsI m L s) (hl : L.length ≤ 1) : ∃ t R, s.lost m = (0, t) :: R ∧ m ≤ t := by
  have hcnt := h.cnt
  have hge : 3 * m ≤ countF s.sk := by
    rcases (show L.length = 0 ∨ L.length = 1 by omega) with q | q <;> rw [q] at hcnt <;> simp at hcnt <;> omega
  have hg : ∀ i, 0 ≤ i → i < m → Mem i s.gaps := fun i q1 q2 => (mem_gaps h.ok).2 ⟨by rw [h.una, h.next]; omega, fun k => by have := (h.mem i).1 k; omega⟩
  cases hG : s.gaps with
  | nil => have := hg 0 (Int.le_refl _) (by omega); rw [hG] at this; exact (mem_nil this).elim
  | cons g R =>
    have hc := gaps_canon s
    have hgm : g ∈ s.gaps := by rw [hG]; exact List.mem_cons_self
    have hgo := canonF_ok hc g hgm
    unfold okS at hgo
    have hg0 : g.1 = 0 := by
      obtain ⟨y, hy, q1, q2⟩ := hg 0 (Int.le_refl _) (by omega)
      rw [hG] at hy hc
      rcases List.mem_cons.1 hy with rfl | hy
      · omega
      · have := canonF_gt (canonF_cons.1 hc).2 (show Mem 0 R from ⟨y, hy, q1, q2⟩)
        omega
    have hh := canonF_holds hc (a := 0) (b := m) hg hgm (p := 0) (Int.le_refl _) (by omega) (by omega) (by omega)
    have e : s.lostOf m g = g := by
      unfold Sc.lostOf
      rw [hg0, upL_zero h.ok.csk, if_neg (by omega)]
    refine ⟨g.2, withL (R.map (s.lostOf m)), ?_, hh.2⟩
    have hlo : s.lost m = s.all m := by rw [lost_eq h1, h.ag]; exact wthF_right (e := -1) (all_spec s m).1
    rw [hlo]
    unfold Sc.all
    rw [hG, List.map_cons, e, withL_cons, if_pos (by omega), ← hg0]
theorem TsI.last {m : Int} (h1 : 1 ≤ m) {s : Sc} (h : TsI m [] s) : s.lost m = [(0, m)] ∧ s.pipe m = 0 := by
  have h5 := h.ok.n40
  have hsk : s.gaps = [(0, m)] := canonF_unique (gaps_canon s) (canonB_one.2 ⟨Int.le_refl _, by dsimp only; omega, by have := h.next; dsimp only; omega⟩) (fun i => by
    rw [mem_gaps h.ok, h.mem, h.una, h.next, mem_cons]
    dsimp only
    constructor
    · rintro ⟨q, q2⟩
      refine .inl ⟨q.1, ?_⟩
      rcases Int.lt_or_le i m with r | r
      · exact r
      · exact (q2 ⟨by omega, by simp⟩).elim
    · rintro (q | q)
      · exact ⟨by omega, by omega⟩
      · exact (mem_nil q).elim)
  obtain ⟨t, R, e, ht⟩ := h.many h1 (by simp)
  have hlo : s.lost m = s.all m := by rw [lost_eq h1, h.ag]; exact wthF_right (e := -1) (all_spec s m).1
  have hal : s.all m = [(0, m)] := by
    have e2 : s.lostOf m (0, m) = (0, m) := by
      obtain ⟨l1, l2, l3⟩ := lostOf_spec s m (g := (0, m)) (by dsimp only; omega)
      have : s.all m = withL [s.lostOf m (0, m)] := by unfold Sc.all; rw [hsk]; rfl
      rw [hlo, this, withL_cons] at e
      split at e
      · have e3 := (List.cons.inj e).1
        rw [e3] at l1 l2 l3 ⊢
        dsimp only at l3
        rw [show t = m by omega]
      · cases e
    unfold Sc.all
    rw [hsk, List.map_cons, List.map_nil, e2, withL_cons, if_pos (by dsimp only; omega)]
    rfl
  refine ⟨by rw [hlo, hal], ?_⟩
  rw [pipe_eq s h1, h.ag, hsk, hal]
  show 0 + _ = _
  omega
end Go.Proofs.Ytncjeleabpodaaa
