/- The scoreboard's state in plain terms. -/
import Derived.Test.YtncjeleabpodaaaScPlain
namespace Go.Proofs.Ytncjeleabpodaaa
structure Sc where
  una : Int
  next : Int
  mark : Int
  sk : List Sp
  ag : List Sp
def sc0 : Sc := ⟨0, 0, 0, [], []⟩
structure Sc.Ok (s : Sc) : Prop where
  u0 : 0 ≤ s.una
  un : s.una ≤ s.next
  n40 : s.next ≤ 1099511627776
  m0 : 0 ≤ s.mark
  mn : s.mark ≤ s.next
  csk : canonB s.sk = true
  cag : canonB s.ag = true
  msk : ∀ i, Mem i s.sk → s.una ≤ i ∧ i < s.next
  mag : ∀ i, Mem i s.ag → s.una ≤ i ∧ i < s.next ∧ ¬ Mem i s.sk
theorem sc0_ok : sc0.Ok := ⟨by decide, by decide, by decide, by decide, by decide, rfl, rfl, fun _ h => (mem_nil h).elim, fun _ h => (mem_nil h).elim⟩
def Sc.sentB (s : Sc) (to : Int) : Bool := decide (s.next ≤ to ∧ to ≤ 1099511627776)
def Sc.sent (s : Sc) (to : Int) : Sc := if s.sentB to = true then { s with next := to } else s
def Sc.sentE (s : Sc) (to : Int) : Int := if s.sentB to = true then 0 else 140
theorem Sc.Ok.sent {s : Sc} (h : s.Ok) (to : Int) : (s.sent to).Ok := by
  unfold Sc.sent
  split
  · rename_i hb
    unfold Sc.sentB at hb
    rw [decide_eq_true_iff] at hb
    exact ⟨h.u0, Int.le_trans h.un hb.1, hb.2, h.m0, Int.le_trans h.mn hb.1, h.csk, h.cag, fun i hi => by have := h.msk i hi; dsimp only; omega, fun i hi => by have := h.mag i hi; exact ⟨this.1, by dsimp only; omega, this.2.2⟩⟩
  · exact h
def Sc.inB (s : Sc) (x : Sp) : Bool := decide (0 ≤ x.1 ∧ x.1 < x.2 ∧ x.2 ≤ s.next)
def Sc.ackB (s : Sc) (una : Int) (l : List Sp) : Bool := decide (0 ≤ una ∧ una ≤ s.next) && l.all s.inB
def Sc.ackS (s : Sc) (una : Int) (l : List Sp) : Sc :=
  { s with una := max s.una una, sk := mergedL (max s.una una) (s.sk ++ l), ag := wthF (mergedL (max s.una una) s.ag) (mergedL (max s.una una) (s.sk ++ l)) }
def Sc.acked (s : Sc) (una : Int) (l : List Sp) : Sc := if s.ackB una l = true then s.ackS una l else s
def Sc.ackN (s : Sc) (una : Int) (l : List Sp) : Int := if s.ackB una l = true then max s.una una + countF (s.ackS una l).sk - (s.una + countF s.sk) else 0
def Sc.ackE (s : Sc) (una : Int) (l : List Sp) : Int := if s.ackB una l = true then 0 else 140
theorem Sc.inB_iff {s : Sc} {x : Sp} : s.inB x = true ↔ 0 ≤ x.1 ∧ x.1 < x.2 ∧ x.2 ≤ s.next := by unfold Sc.inB; rw [decide_eq_true_iff]
theorem Sc.ackB_iff {s : Sc} {una : Int} {l : List Sp} : s.ackB una l = true ↔ (0 ≤ una ∧ una ≤ s.next) ∧ ∀ x ∈ l, s.inB x = true := by
  unfold Sc.ackB
  rw [Bool.and_eq_true, decide_eq_true_iff, List.all_eq_true]
theorem Sc.Ok.okl {s : Sc} (h : s.Ok) {l : List Sp} (hl : ∀ x ∈ l, s.inB x = true) : ∀ x ∈ s.sk ++ l, okS x := by
  intro x hx
  rcases List.mem_append.1 hx with hx | hx
  · exact canonF_ok h.csk x hx
  · have := Sc.inB_iff.1 (hl x hx); have := h.n40; unfold okS; omega
theorem Sc.Ok.ack_sk {s : Sc} (h : s.Ok) {una : Int} {l : List Sp} (hb : s.ackB una l = true) : canonB (s.ackS una l).sk = true ∧ ∀ i, Mem i (s.ackS una l).sk ↔ max s.una una ≤ i ∧ (Mem i s.sk ∨ Mem i l) := by
  obtain ⟨h1, h2⟩ := Sc.ackB_iff.1 hb
  have hu := h.u0
  obtain ⟨c1, c2⟩ := mergedL_spec (low := max s.una una) (by omega) (h.okl h2)
  exact ⟨c1, fun i => by show Mem i (mergedL _ _) ↔ _; rw [c2, mem_append]⟩
theorem Sc.Ok.ack_ag {s : Sc} (h : s.Ok) {una : Int} {l : List Sp} (hb : s.ackB una l = true) : canonB (s.ackS una l).ag = true ∧ ∀ i, Mem i (s.ackS una l).ag ↔ (max s.una una ≤ i ∧ Mem i s.ag) ∧ ¬ Mem i (s.ackS una l).sk := by
  have hu := h.u0
  obtain ⟨c1, c2⟩ := mergedL_spec (low := max s.una una) (L := s.ag) (by omega) (canonF_ok h.cag)
  obtain ⟨d1, d2⟩ := wthF_spec c1 (h.ack_sk hb).1
  exact ⟨d1, fun i => by refine Iff.trans (d2 i) ?_; rw [c2]⟩
theorem Sc.Ok.ackS {s : Sc} (h : s.Ok) {una : Int} {l : List Sp} (hb : s.ackB una l = true) : (s.ackS una l).Ok := by
  obtain ⟨h1, h2⟩ := Sc.ackB_iff.1 hb
  obtain ⟨c1, c2⟩ := h.ack_sk hb
  obtain ⟨d1, d2⟩ := h.ack_ag hb
  have hu := h.u0
  have hn := h.un
  refine ⟨by show 0 ≤ max s.una una; omega, by show max s.una una ≤ s.next; omega, h.n40, h.m0, h.mn, c1, d1, fun i hi => ?_, fun i hi => ?_⟩
  · obtain ⟨a, b⟩ := (c2 i).1 hi
    refine ⟨a, ?_⟩
    rcases b with b | b
    · exact (h.msk i b).2
    · obtain ⟨x, hx, hxi⟩ := b
      have := Sc.inB_iff.1 (h2 x hx)
      show i < s.next
      omega
  · obtain ⟨⟨a, b⟩, c⟩ := (d2 i).1 hi
    exact ⟨a, (h.mag i b).2.1, c⟩
theorem Sc.Ok.acked {s : Sc} (h : s.Ok) (una : Int) (l : List Sp) : (s.acked una l).Ok := by
  unfold Sc.acked
  split
  · rename_i hb; exact h.ackS hb
  · exact h
def Sc.timeout (s : Sc) : Sc := { s with sk := [], ag := [], mark := s.next }
theorem Sc.Ok.timeout {s : Sc} (h : s.Ok) : s.timeout.Ok :=
  ⟨h.u0, h.un, h.n40, by have := h.u0; have := h.un; show 0 ≤ s.next; omega, Int.le_refl _, rfl, rfl, fun _ h => (mem_nil h).elim, fun _ h => (mem_nil h).elim⟩
def Sc.lostOf (s : Sc) (m : Int) (g : Sp) : Sp := if countF (upL g.1 s.sk) / 3 < m ∧ (upL g.1 s.sk).length < 3 then (g.1, max g.1 (min g.2 s.mark)) else g
def Sc.gaps (s : Sc) : List Sp := gapsL s.sk (s.una, s.next)
def Sc.lost (s : Sc) (m : Int) : List Sp := if m < 1 then [] else wthF (withL (s.gaps.map (s.lostOf m))) s.ag
def pipF (s : Sc) (m : Int) : List Sp → Int
  | [] => 0
  | g :: l => (g.2 - g.1 - ((s.lostOf m g).2 - (s.lostOf m g).1)) + pipF s m l
def Sc.pipe (s : Sc) (m : Int) : Int := if m < 1 then 0 else countF s.ag + pipF s m s.gaps
def Sc.retS (s : Sc) (x : Sp) : Sc := { s with ag := mergedL s.una (s.ag ++ wthF (mergedL s.una [x]) s.sk) }
def Sc.ret (s : Sc) (x : Sp) : Sc := if s.inB x = true then s.retS x else s
def Sc.retE (s : Sc) (x : Sp) : Int := if s.inB x = true then 0 else 140
theorem Sc.Ok.ret_spec {s : Sc} (h : s.Ok) {x : Sp} (hx : s.inB x = true) : (canonB (mergedL s.una [x]) = true ∧ ∀ y ∈ s.ag ++ wthF (mergedL s.una [x]) s.sk, okS y) ∧ canonB (s.retS x).ag = true ∧ ∀ i, Mem i (s.retS x).ag ↔ Mem i s.ag ∨ (s.una ≤ i ∧ (x.1 ≤ i ∧ i < x.2) ∧ ¬ Mem i s.sk) := by
  have h1 := Sc.inB_iff.1 hx
  have hn := h.n40
  have hxo : ∀ y ∈ [x], okS y := fun y hy => by rw [List.mem_singleton.1 hy]; unfold okS; omega
  obtain ⟨c1, c2⟩ := mergedL_spec (low := s.una) h.u0 hxo
  obtain ⟨d1, d2⟩ := wthF_spec c1 h.csk
  have hall : ∀ y ∈ s.ag ++ wthF (mergedL s.una [x]) s.sk, okS y := fun y hy => by
    rcases List.mem_append.1 hy with hy | hy
    · exact canonF_ok h.cag y hy
    · exact canonF_ok d1 y hy
  obtain ⟨e1, e2⟩ := mergedL_spec (low := s.una) h.u0 hall
  refine ⟨⟨c1, hall⟩, e1, fun i => ?_⟩
  show Mem i (mergedL _ _) ↔ _
  rw [e2, mem_append, d2, c2, mem_cons]
  constructor
  · rintro ⟨a, b | ⟨⟨b, c⟩, d⟩⟩
    · exact .inl b
    · rcases c with c | c
      · exact .inr ⟨a, c, d⟩
      · exact (mem_nil c).elim
  · rintro (b | ⟨a, b, c⟩)
    · exact ⟨(h.mag i b).1, .inl b⟩
    · exact ⟨a, .inr ⟨⟨a, .inl b⟩, c⟩⟩
theorem Sc.Ok.retS {s : Sc} (h : s.Ok) {x : Sp} (hx : s.inB x = true) : (s.retS x).Ok := by
  obtain ⟨-, e1, e2⟩ := h.ret_spec hx
  have h1 := Sc.inB_iff.1 hx
  refine ⟨h.u0, h.un, h.n40, h.m0, h.mn, h.csk, e1, h.msk, fun i hi => ?_⟩
  rcases (e2 i).1 hi with b | ⟨a, b, c⟩
  · exact h.mag i b
  · exact ⟨a, by show i < s.next; omega, c⟩
theorem Sc.Ok.ret {s : Sc} (h : s.Ok) (x : Sp) : (s.ret x).Ok := by
  unfold Sc.ret
  split
  · rename_i hx; exact h.retS hx
  · exact h
end Go.Proofs.Ytncjeleabpodaaa
