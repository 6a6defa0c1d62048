/- RTOScoreboard, plain: the scoreboard and the two timers of a round. -/
import Derived.Test.YtncjeleabpodaaaScLaw2
import Derived.Test.YtncjeleabpodaaaRtoAck
namespace Go.Proofs.Ytncjeleabpodaaa
def scR (o : Int) : Sc := ⟨o, o, 0, [], []⟩
def scE (o : Int) : Sc := ⟨o, o + 400, 0, [], []⟩
def scA (o : Int) : Sc := ⟨o, o + 400, 0, [(o + 100, o + 400)], []⟩
def scB (o : Int) : Sc := ⟨o, o + 400, 0, [(o + 100, o + 400)], [(o, o + 100)]⟩
theorem canon1 {a b : Int} (h0 : 0 ≤ a) (h1 : a < b) (h2 : b ≤ 1099511627776) : canonB [(a, b)] = true := canonB_one.2 ⟨h0, h1, h2⟩
theorem mem1 {a b i : Int} : Mem i [(a, b)] ↔ a ≤ i ∧ i < b := by
  rw [mem_cons]
  exact ⟨fun h => h.elim id (fun h => (mem_nil h).elim), .inl⟩
theorem scR_ok {o : Int} (h0 : 0 ≤ o) (h1 : o ≤ 1000000) : (scR o).Ok :=
  ⟨h0, Int.le_refl _, by show o ≤ _; omega, Int.le_refl _, h0, rfl, rfl, fun _ h => (mem_nil h).elim, fun _ h => (mem_nil h).elim⟩
theorem scE_ok {o : Int} (h0 : 0 ≤ o) (h1 : o ≤ 1000000) : (scE o).Ok :=
  ⟨h0, by show o ≤ o + 400; omega, by show o + 400 ≤ _; omega, Int.le_refl _, by show 0 ≤ o + 400; omega, rfl, rfl, fun _ h => (mem_nil h).elim, fun _ h => (mem_nil h).elim⟩
theorem scA_ok {o : Int} (h0 : 0 ≤ o) (h1 : o ≤ 1000000) : (scA o).Ok :=
  ⟨h0, by show o ≤ o + 400; omega, by show o + 400 ≤ _; omega, Int.le_refl _, by show 0 ≤ o + 400; omega, canon1 (by omega) (by omega) (by omega), rfl, fun i h => by have := mem1.1 h; show o ≤ i ∧ i < o + 400; omega, fun _ h => (mem_nil h).elim⟩
theorem scB_ok {o : Int} (h0 : 0 ≤ o) (h1 : o ≤ 1000000) : (scB o).Ok :=
  ⟨h0, by show o ≤ o + 400; omega, by show o + 400 ≤ _; omega, Int.le_refl _, by show 0 ≤ o + 400; omega, canon1 (by omega) (by omega) (by omega), canon1 (by omega) (by omega) (by omega), fun i h => by have := mem1.1 h; show o ≤ i ∧ i < o + 400; omega,
    fun i h => by have := mem1.1 h; exact ⟨this.1, by show i < o + 400; omega, fun k => by have := mem1.1 k; omega⟩⟩
theorem scR_sent {o : Int} (h0 : 0 ≤ o) (h1 : o ≤ 1000000) : (scR o).sent (o + 400) = scE o ∧ (scR o).sentE (o + 400) = 0 := by
  have hb : (scR o).sentB (o + 400) = true := by
    show decide (o ≤ o + 400 ∧ o + 400 ≤ 1099511627776) = true
    rw [decide_eq_true_iff]; omega
  exact ⟨by unfold Sc.sent; rw [if_pos hb]; rfl, by unfold Sc.sentE; rw [if_pos hb]⟩
theorem scE_ack {o : Int} (h0 : 0 ≤ o) (h1 : o ≤ 1000000) : (scE o).acked o [(o + 100, o + 400)] = scA o ∧ (scE o).ackE o [(o + 100, o + 400)] = 0 := by
  have hb : (scE o).ackB o [(o + 100, o + 400)] = true := Sc.ackB_iff.2 ⟨⟨h0, by show o ≤ o + 400; omega⟩, fun x hx => by rw [List.mem_singleton.1 hx]; exact Sc.inB_iff.2 ⟨by dsimp only; omega, by dsimp only; omega, Int.le_refl _⟩⟩
  refine ⟨?_, by unfold Sc.ackE; rw [if_pos hb]⟩
  unfold Sc.acked Sc.ackS
  rw [if_pos hb]
  have hmx : max (scE o).una o = o := by show max o o = o; omega
  rw [hmx]
  show (⟨o, o + 400, 0, mergedL o ([] ++ [(o + 100, o + 400)]), wthF (mergedL o []) _⟩ : Sc) = _
  rw [List.nil_append, mergedL_id (e := -1) h0 (canon1 (by omega) (by omega) (by omega)) (fun i h => by have := mem1.1 h; omega)]
  rfl
theorem scA_lost {o : Int} (h0 : 0 ≤ o) (h1 : o ≤ 1000000) : (scA o).lost 100 = [(o, o + 100)] ∧ (scA o).all 100 = [(o, o + 100)] := by
  have hg : (scA o).gaps = [(o, o + 100)] := by
    show gapsL [(o + 100, o + 400)] (o, o + 400) = _
    unfold gapsL
    rw [if_pos (takesB_iff.2 ⟨canon1 (by omega) (by omega) (by omega), h0, by dsimp only; omega, by dsimp only; omega⟩)]
    show (if o + 400 ≤ o then _ else if o + 400 ≤ o + 100 then _ else one o (o + 100) ++ one (o + 400) (o + 400)) = _
    rw [if_neg (by omega), if_neg (by omega)]
    unfold one
    rw [if_pos (by omega), if_neg (by omega)]
    rfl
  have hl : (scA o).lostOf 100 (o, o + 100) = (o, o + 100) := by
    have hu : upL o [(o + 100, o + 400)] = [(o + 100, o + 400)] := by rw [upL_cons, if_neg (by dsimp only; omega)]
    unfold Sc.lostOf
    rw [if_neg]
    show ¬ (countF (upL o [(o + 100, o + 400)]) / 3 < 100 ∧ _)
    rw [hu]
    show ¬ ((o + 400 - (o + 100) + 0) / 3 < 100 ∧ _)
    omega
  have ha : (scA o).all 100 = [(o, o + 100)] := by
    unfold Sc.all
    rw [hg, List.map_cons, List.map_nil, hl, withL_cons, if_pos (by dsimp only; omega)]
    rfl
  exact ⟨by rw [lost_eq (by omega), ha]; exact wthF_right (e := -1) (canon1 h0 (by omega) (by omega)), ha⟩
theorem scA_ret {o : Int} (h0 : 0 ≤ o) (h1 : o ≤ 1000000) : (scA o).ret (o, o + 100) = scB o ∧ (scA o).retE (o, o + 100) = 0 := by
  have hb : (scA o).inB (o, o + 100) = true := Sc.inB_iff.2 ⟨h0, by dsimp only; omega, by show o + 100 ≤ o + 400; omega⟩
  refine ⟨?_, by unfold Sc.retE; rw [if_pos hb]⟩
  unfold Sc.ret Sc.retS
  rw [if_pos hb]
  have hc := canon1 (a := o) (b := o + 100) h0 (by omega) (by omega)
  have hid : mergedL o [(o, o + 100)] = [(o, o + 100)] := mergedL_id (e := -1) h0 hc (fun i h => (mem1.1 h).1)
  have hw : wthF [(o, o + 100)] [(o + 100, o + 400)] = [(o, o + 100)] := by
    show (if o + 400 ≤ o then _ else if o + 100 ≤ o + 100 then one o (o + 100) else _) ++ [] = _
    rw [if_neg (by omega), if_pos (Int.le_refl _), List.append_nil]
    unfold one
    rw [if_pos (by omega)]
  show (⟨o, o + 400, 0, [(o + 100, o + 400)], mergedL o ([] ++ wthF (mergedL o [(o, o + 100)]) [(o + 100, o + 400)])⟩ : Sc) = _
  rw [hid, hw, List.nil_append, hid]
  rfl
theorem scB_lost {o : Int} (h0 : 0 ≤ o) (h1 : o ≤ 1000000) : (scB o).lost 100 = [] := by
  rw [lost_eq (by omega), all_congr (s := scA o) (t := scB o) rfl rfl rfl rfl 100, (scA_lost h0 h1).2]
  show (if o + 100 ≤ o then _ else if o + 100 ≤ o then _ else one o o ++ one (o + 100) (o + 100)) ++ [] = _
  rw [if_neg (by omega), if_neg (by omega)]
  unfold one
  rw [if_neg (by omega), if_neg (by omega)]
  rfl
theorem ackedAll {s : Sc} (h : s.Ok) {n : Int} (hn : n = s.next) : s.acked n [] = { s with una := s.next, sk := [], ag := [] } ∧ s.ackN n [] = s.next - s.una - countF s.sk ∧ s.ackE n [] = 0 := by
  subst hn
  obtain ⟨a, b, c⟩ := ack_all h
  exact ⟨by unfold Sc.acked; rw [if_pos a, b], c, by unfold Sc.ackE; rw [if_pos a]⟩
theorem scE_all {o : Int} (h0 : 0 ≤ o) (h1 : o ≤ 1000000) : (scE o).acked (o + 400) [] = scR (o + 400) ∧ (scE o).ackN (o + 400) [] = 400 ∧ (scE o).ackE (o + 400) [] = 0 := by
  obtain ⟨a, b, c⟩ := ackedAll (scE_ok h0 h1) (n := o + 400) rfl
  exact ⟨a, by rw [b]; show o + 400 - o - 0 = 400; omega, c⟩
theorem scB_all {o : Int} (h0 : 0 ≤ o) (h1 : o ≤ 1000000) : (scB o).acked (o + 400) [] = scR (o + 400) ∧ (scB o).ackN (o + 400) [] = 100 ∧ (scB o).ackE (o + 400) [] = 0 := by
  obtain ⟨a, b, c⟩ := ackedAll (scB_ok h0 h1) (n := o + 400) rfl
  exact ⟨a, by rw [b]; show o + 400 - o - (o + 400 - (o + 100) + 0) = 100; omega, c⟩
theorem scR_pipe {o : Int} (h0 : 0 ≤ o) (h1 : o ≤ 1000000) : (scR o).pipe 100 = 0 := by
  rw [pipe_empty (scR_ok h0 h1) rfl rfl (by omega)]
  show o - max o (min o 0) = 0
  omega
/-- Two timers that time nothing and have the same samples. -/
structure TmEq (t u : Tm) : Prop where
  had : t.had = u.had
  trip : t.trip = u.trip
  dev : t.dev = u.dev
  backs : t.backs = u.backs
  tt : t.timing = false
  tu : u.timing = false
  ft : t.Fit
  fu : u.Fit
theorem TmEq.value {t u : Tm} (h : TmEq t u) : t.value = u.value := by unfold Tm.value Tm.base; rw [h.had, h.trip, h.dev, h.backs]
theorem TmEq.even {t u : Tm} (h : TmEq t u) {now now' n una : Int} (hn : n ≤ una) (h64 : In64 now) : TmEq ((t.sent now n).acked now' una) ((u.sent now n).acked now' una) := by
  obtain ⟨a, b, c, d, e, f, g, i⟩ := h
  have e1 : t.sent now n = { t with timing := true, goal := n, since := now } := by unfold Tm.sent; rw [if_neg (by rw [e]; decide)]
  have e2 : u.sent now n = { u with timing := true, goal := n, since := now } := by unfold Tm.sent; rw [if_neg (by rw [f]; decide)]
  have g1 := Tm.acked_fit (Tm.sent_fit g now n h64) now' una
  have i1 := Tm.acked_fit (Tm.sent_fit i now n h64) now' una
  rw [e1] at g1
  rw [e2] at i1
  rw [e1, e2]
  have k1 : ({ t with timing := true, goal := n, since := now } : Tm).acked now' una = Tm.sample { t with timing := false, goal := n, since := now, backs := 0 } (elapsedV now now') := by unfold Tm.acked; rw [if_pos ⟨rfl, hn⟩]
  have k2 : ({ u with timing := true, goal := n, since := now } : Tm).acked now' una = Tm.sample { u with timing := false, goal := n, since := now, backs := 0 } (elapsedV now now') := by unfold Tm.acked; rw [if_pos ⟨rfl, hn⟩]
  rw [k1] at g1 ⊢
  rw [k2] at i1 ⊢
  refine ⟨?_, ?_, ?_, ?_, ?_, ?_, g1, i1⟩
  all_goals (unfold Tm.sample; dsimp only; (try rw [a]); split)
  all_goals first | rfl | (dsimp only; rw [b, c]) | (dsimp only; rw [b]) | exact a
theorem TmEq.odd {t u : Tm} (h : TmEq t u) {now now' n una : Int} (h64 : In64 now) : TmEq (((t.sent now n).retr).acked now' una) (u.acked now' una) := by
  obtain ⟨a, b, c, d, e, f, g, i⟩ := h
  have e1 : t.sent now n = { t with timing := true, goal := n, since := now } := by unfold Tm.sent; rw [if_neg (by rw [e]; decide)]
  have g1 := Tm.acked_fit (Tm.retr_fit (Tm.sent_fit g now n h64)) now' una
  have k1 : ((t.sent now n).retr).acked now' una = { t with timing := false, goal := n, since := now } := by
    rw [e1]; unfold Tm.retr Tm.acked; rw [if_neg (by rintro ⟨h, _⟩; cases h)]
  have k2 : u.acked now' una = u := by unfold Tm.acked; rw [if_neg (by rintro ⟨h, _⟩; rw [f] at h; cases h)]
  rw [k1] at g1 ⊢
  rw [k2]
  exact ⟨a, b, c, d, rfl, f, g1, i⟩
theorem tmEq0 : TmEq tm0 tm0 := ⟨rfl, rfl, rfl, rfl, rfl, rfl, tm0_fit, tm0_fit⟩
end Go.Proofs.Ytncjeleabpodaaa
