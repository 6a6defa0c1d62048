/- The gaps of a scoreboard, plain. -/
import Derived.Test.YtncjeleabpodaaaScSt
import Derived.Test.YtncjeleabpodaaaRgCount
namespace Go.Proofs.Ytncjeleabpodaaa
open Go.RowKit Go.Shelf
theorem gaps_canon (s : Sc) : canonB s.gaps = true := by
  unfold Sc.gaps
  by_cases h : takesB s.sk (s.una, s.next) = true
  · exact (gapsL_spec h).1
  · unfold gapsL
    rw [if_neg h]
    rfl
theorem canonF_pair {e : Int} {L : List Sp} (h : canonF e L = true) : L.Pairwise fun x y => x.1 ≤ y.1 := by
  induction L generalizing e with
  | nil => exact List.Pairwise.nil
  | cons x l ih =>
    rw [canonF_cons] at h
    refine List.Pairwise.cons (fun y hy => ?_) (ih h.2)
    have := canonF_gt h.2 (show Mem y.1 l from ⟨y, hy, Int.le_refl _, (canonF_ok h.2 y hy).2.1⟩)
    omega
theorem gaps_rise (s : Sc) (i j : Nat) (h1 : i ≤ j) (h2 : j < s.gaps.length) : (s.gaps[i]'(by omega)).1 ≤ s.gaps[j].1 := by
  rcases Nat.lt_or_ge i j with h | h
  · exact List.pairwise_iff_getElem.1 (canonF_pair (gaps_canon s)) i j (by omega) h2 h
  · obtain rfl : i = j := by omega
    exact Int.le_refl _
theorem gaps_len (s : Sc) : s.gaps.length ≤ 1099511627776 := canonF_len (gaps_canon s)
end Go.Proofs.Ytncjeleabpodaaa
