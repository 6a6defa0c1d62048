/- A SYN that nobody answers, in plain terms. -/
import Derived.Test.YtclkcmidhhfdmaaGreatDoorUb34
namespace Go.Proofs.YtclkcmidhhfdmaaGreatDoor
/-- The timer's part of the connection, and what the law counts. -/
structure Ss where
  tm : Tm
  dl : Al
  tries : Int
  last : Int
  gap : Int
  many : Int
def synK (x : Rw) (s : Ss) : Cn := { (openR 0 (kfA x)).1 with tm := s.tm, dl := s.dl, tries := s.tries }
def ss0 : Ss := ⟨tm0.sent 0 1, .aft 0 12, 0, 0, 0, 0⟩
theorem synK0 (x : Rw) : synK x ss0 = (openR 0 (kfA x)).1 := rfl
/-- One more retransmission. -/
def Ss.go (s : Ss) (now : Int) : Ss := ⟨s.tm.retr.backoff, .aft now s.tm.retr.backoff.value, s.tries + 1, now, now - s.last, s.many + 1⟩
theorem synK_no (x : Rw) (s : Ss) (now : Int) (hs : s.dl.set = true) (h : s.dl.due now = false) : (synK x s).tick now = (synK x s, []) := by
  unfold Cn.tick
  rw [if_neg (show ¬ (synK x s).st = 0 from by show ¬ (1 : Int) = 0; decide), if_neg (fun hh => by have : (1 : Int) = 9 := hh.1; exact absurd this (by decide)), if_neg (show ¬ (synK x s).dl.due now = true from by show ¬ s.dl.due now = true; rw [h]; decide)]
  unfold Cn.tickEnd
  dsimp only
  rw [if_neg (fun hh => by have : (0 : Int) = 1 := hh.1; exact absurd this (by decide))]
  unfold Cn.push
  rw [if_neg (show ¬ (synK x s).st = 0 from by show ¬ (1 : Int) = 0; decide)]
  dsimp only
  rw [if_neg (show ¬ sendsB (synK x s).st = true from by show ¬ sendsB 1 = true; decide)]
  unfold Cn.pushA
  rw [if_neg (show ¬ (synK x s).pend = 2 from by show ¬ (0 : Int) = 2; decide)]
  unfold Cn.pushT
  rw [if_neg (fun hh => by have : (1 : Int) ≤ 0 := hh.1; exact absurd this (by decide)), if_pos (show (synK x s).dl.set = true from hs)]
  rfl
theorem synK_re (x : Rw) (s : Ss) (now : Int) (h : s.dl.due now = true) (ht : s.tries + 1 ≤ 12) : (synK x s).tick now = (synK x (s.go now), [synA x]) := by
  unfold Cn.tick
  rw [if_neg (show ¬ (synK x s).st = 0 from by show ¬ (1 : Int) = 0; decide), if_neg (fun hh => by have : (1 : Int) = 9 := hh.1; exact absurd this (by decide)), if_pos (show (synK x s).dl.due now = true from h)]
  dsimp only
  rw [if_neg (show ¬ 12 < (synK x s).tries + 1 from by show ¬ 12 < s.tries + 1; omega), if_neg (show ¬ syncB (synK x s).st = true from by show ¬ syncB 1 = true; decide)]
  rfl
theorem synK_end (x : Rw) (s : Ss) (now : Int) (h : s.dl.due now = true) (ht : 12 < s.tries + 1) : (synK x s).tick now = ({ synK x s with tries := s.tries + 1, st := 0, err := 182 }, []) := by
  unfold Cn.tick
  rw [if_neg (show ¬ (synK x s).st = 0 from by show ¬ (1 : Int) = 0; decide), if_neg (fun hh => by have : (1 : Int) = 9 := hh.1; exact absurd this (by decide)), if_pos (show (synK x s).dl.due now = true from h)]
  dsimp only
  rw [if_pos (show 12 < (synK x s).tries + 1 from ht)]
  rfl
/-- The law's loop: so many rounds are left. -/
def simL : Nat → Ss → Bool
  | 0, _ => false
  | n + 1, s =>
    if s.dl.due ((4000 - n : Nat) : Int) = true then
      (if 12 < s.tries + 1 then decide (s.many = 12 ∧ s.gap = 240)
       else decide (s.gap ≤ ((4000 - n : Nat) : Int) - s.last ∧ ((4000 - n : Nat) : Int) - s.last ≤ 240) && simL n (s.go ((4000 - n : Nat) : Int)))
    else simL n s
theorem sim0 : simL 4000 ss0 = true := by decide +kernel
/-- What a round finds. -/
theorem sim_cases {n : Nat} {s : Ss} {now : Int} (h : simL (n + 1) s = true) (hn : now = ((4000 - n : Nat) : Int)) :
    (s.dl.due now = false ∧ simL n s = true) ∨ (s.dl.due now = true ∧ 12 < s.tries + 1 ∧ s.many = 12 ∧ s.gap = 240) ∨ (s.dl.due now = true ∧ s.tries + 1 ≤ 12 ∧ s.gap ≤ now - s.last ∧ now - s.last ≤ 240 ∧ simL n (s.go now) = true) := by
  subst hn
  unfold simL at h
  split at h
  · rename_i hd
    split at h
    · rename_i ht
      have := of_decide_eq_true h
      exact .inr (.inl ⟨hd, ht, this.1, this.2⟩)
    · rename_i ht
      rw [Bool.and_eq_true] at h
      have := of_decide_eq_true h.1
      exact .inr (.inr ⟨hd, by omega, this.1, this.2, h.2⟩)
  · rename_i hd
    exact .inl ⟨by cases hq : s.dl.due _ with | false => rfl | true => exact absurd hq hd, h⟩
end Go.Proofs.YtclkcmidhhfdmaaGreatDoor
