/- The states of both sides from check to check. -/
import Derived.Test.YtclkcmidhhfdmaaGreatDoorUb10
import Derived.Test.YtclkcmidhhfdmaaGreatDoorUb34
namespace Go.Proofs.YtclkcmidhhfdmaaGreatDoor
namespace Pr
variable {p q : Pr}
def MvP (p q : Pr) : Prop := ∀ i, Mv (p.sd i).c (q.sd i).c
theorem MvP.refl (p : Pr) : MvP p p := fun _ => .refl _
theorem MvP.trans {p q r : Pr} (h : MvP p q) (k : MvP q r) : MvP p r := fun i => (h i).trans (k i)
theorem act_mvP (p : Pr) (i : Bool) (d : Sd) (l : List Sg) (h : Mv (p.sd i).c d.c) : MvP p ((p.setSd i d).put i l) := by
  intro j
  rw [put_sd]
  rcases bool_case i j with rfl | rfl
  · rw [(sd_set p _ d).1]; exact h
  · rw [(sd_set p _ d).2.1]; exact .refl _
theorem recv1_mvP (p : Pr) (f : Fl) : MvP p (p.recv1 f) := act_mvP p f.dst { p.sd f.dst with c := ((p.sd f.dst).c.receive p.now f.s).1 } _ (receive_mv _ _ _)
theorem tick1_mvP (p : Pr) (i : Bool) : MvP p (p.tick1 i) := act_mvP p i { p.sd i with c := ((p.sd i).c.tick p.now).1 } _ (tick_mv _ _)
theorem fold_mvP : ∀ (l : List Fl) (p : Pr), MvP p (l.foldl recv1 p) := by
  intro l
  induction l with
  | nil => exact fun p => .refl p
  | cons f l ih => exact fun p => (recv1_mvP p f).trans (ih _)
theorem tick_mvP (p : Pr) : MvP p p.tick := by
  have h0 : MvP p { ({ p with now := p.now + 1 } : Pr) with wire := ({ p with now := p.now + 1 } : Pr).rest } := fun i => by cases i <;> exact .refl _
  exact ((h0.trans (fold_mvP _ _)).trans (tick1_mvP _ false)).trans (tick1_mvP _ true)
/-- From one look to the next. -/
def GapP (p q : Pr) : Prop := ∀ i, Gap (p.sd i).c (q.sd i).c
def Sh1P (p : Pr) : Prop := ∀ i, Sh1 (p.sd i).c
theorem MvP.gap (h : MvP p q) : GapP p q := fun i => ⟨_, h i, .inl (.refl _)⟩
/-- A way, then an operation. -/
theorem MvP.op (h : MvP p q) (x : Dv) : GapP p (q.opD x) := by
  have same : ∀ r : Pr, MvP q r → GapP p r := fun r k => (h.trans k).gap
  unfold opD
  split
  · refine same _ ?_
    unfold send
    dsimp only
    split
    · exact .refl _
    · split
      · exact .refl _
      · exact act_mvP q x.i { q.sd x.i with c := ((q.sd x.i).c.send q.now (bytes (q.sd x.i) (1 + pickV x.n 200))).1, sent := _ } _ (send_mv _ _ _)
  · split
    · refine same _ ?_
      unfold recv
      dsimp only
      split
      · exact act_mvP q x.i { q.sd x.i with c := ((q.sd x.i).c.recv q.now (1 + pickV x.n 200)).1 } [] (recv_mv _ _ _)
      · exact act_mvP q x.i { q.sd x.i with c := ((q.sd x.i).c.recv q.now (1 + pickV x.n 200)).1, got := _, fin := _ } _ (recv_mv _ _ _)
    · split
      · unfold shut
        dsimp only
        split
        · exact same _ (.refl _)
        · split
          · exact same _ (.refl _)
          · intro i
            rw [put_sd]
            rcases bool_case x.i i with e | e
            · rw [e, (sd_set q _ _).1]; exact ⟨_, h x.i, .inr ⟨q.now, rfl⟩⟩
            · rw [e, (sd_set q _ _).2.1]; exact ⟨_, h _, .inl (.refl _)⟩
      · exact same _ (.refl _)
theorem GapP.far (h : GapP p q) (k : Sh1P p) (i : Bool) : reachV 3 (p.sd i).c.st (q.sd i).c.st ≤ 3 ∧ ((p.sd i).c.st = 0 → (q.sd i).c.st = 0) := ⟨((h i).far (k i)).1, ((h i).far (k i)).2.1⟩
theorem GapP.sh1 (h : GapP p q) (k : Sh1P p) : Sh1P q := fun i => ((h i).far (k i)).2.2
end Pr
theorem meet_sh1 (x : Rw) (fates : List Int) (n m : Nat) : Pr.Sh1P (meetP x fates n m) := by
  rw [meetP_eq]
  intro i
  rw [Pr.put_sd]
  cases i
  · exact ⟨⟨by show (0 : Int) ≤ 1; decide, by show (1 : Int) ≤ 9; decide⟩, fun _ => rfl⟩
  · exact ⟨⟨by show (0 : Int) ≤ 2; decide, by show (2 : Int) ≤ 9; decide⟩, fun _ => rfl⟩
end Go.Proofs.YtclkcmidhhfdmaaGreatDoor
