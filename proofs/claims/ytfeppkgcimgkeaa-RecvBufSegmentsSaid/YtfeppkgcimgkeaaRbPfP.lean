/- A buffer into which pieces of a stream are put, in plain terms. -/
import Derived.Test.YtfeppkgcimgkeaaRbFcP
namespace Go.Proofs.Ytfeppkgcimgkeaa
/-- The buffer holds pieces of the stream S of N bytes; what has been read is a prefix of S. -/
structure PI (S : List UInt8) (N : Nat) (b : Bx) (got : List UInt8) : Prop where
  ok : b.Ok
  len : S.length = N
  small : N ≤ 1000
  str : b.Str S
  rd : b.rd = got.length
  got : got = S.take got.length
  has : ∀ i, b.has i → i < N
theorem PI.nx {S : List UInt8} {N : Nat} {b : Bx} {got : List UInt8} (h : PI S N b got) : b.nx ≤ N := by
  rcases (show b.nx ≤ N ∨ (N : Int) < b.nx by omega) with g | g
  · exact g
  · have := h.has N (.inl (by omega)); omega
theorem PI.start {S : List UInt8} {N : Nat} (hl : S.length = N) (hs : N ≤ 1000) {n : Nat} (h1 : 1 ≤ n) (h2 : n ≤ 8192) : PI S N (bx0 n) [] := by
  refine ⟨bx0_ok n h1 h2, hl, hs, fun i _ hh => ?_, rfl, by simp, fun i hh => ?_⟩
  · rcases hh with ⟨_, g⟩ | g
    · have : (i : Int) < 0 := g; omega
    · exact (mem_nil g).elim
  · rcases hh with ⟨a, g⟩ | g
    · have : i < 0 := g; omega
    · exact (mem_nil g).elim
theorem PI.put {S : List UInt8} {N : Nat} {b : Bx} {got : List UInt8} (h : PI S N b got) {off to : Nat} (h1 : off ≤ to) (h2 : to ≤ N) {s : List UInt8} (hs : s = (S.drop off).take (to - off)) :
    PI S N (b.put off s) got ∧ (b.put off s).rd = b.rd ∧ (b.put off s).ring.length = b.ring.length ∧ b.nx ≤ (b.put off s).nx ∧ (off ≤ b.nx → b.nx < to → b.nx < b.rd + b.ring.length → b.nx < (b.put off s).nx) := by
  have hsm := h.small
  have hl := h.len
  have hsl : s.length = to - off := by rw [hs, List.length_take, List.length_drop]; omega
  obtain ⟨p1, p2, p3, p4, p5⟩ := Bx.put_spec h.ok s (off := off) (by omega) (by omega)
  refine ⟨⟨p1, hl, hsm, ?_, p2.trans h.rd, h.got, fun i hi => ?_⟩, p2, p3, p4, fun g1 g2 g3 => ?_⟩
  · refine h.str.put h.ok s (by omega) (fun i i1 i2 => ?_)
    rw [hsl] at i2
    rw [hs, List.getElem?_take_of_lt (by omega), List.getElem?_drop]
    congr 1
    omega
  · rcases (p5 i).1 hi with g | g
    · exact h.has i g
    · rw [hsl] at g; omega
  · rcases (show b.nx = (b.put off s).nx ∨ b.nx < (b.put off s).nx by omega) with e | e
    · exfalso
      apply p1.nope
      rw [← e]
      exact (p5 _).2 (.inr ⟨g1, by rw [hsl]; omega, g3⟩)
    · exact e
theorem PI.take {S : List UInt8} {N : Nat} {b : Bx} {got : List UInt8} (h : PI S N b got) (k : Int) :
    PI S N (b.take k) (got ++ b.takeS k) ∧ (b.take k).nx = b.nx ∧ (b.take k).ring.length = b.ring.length ∧ ((b.takeS k).length : Int) = max 0 (min k (b.nx - b.rd)) := by
  have hsm := h.small
  have hl := h.len
  have hnx := h.nx
  have h2 := h.ok.rdnx
  have hm := h.ok.most
  obtain ⟨q, q1, q2, q3, q4, q5⟩ := h.str.take h.ok (r := got.length) h.rd k
  obtain ⟨t1, t2, t3, t4⟩ := b.take_has k
  refine ⟨⟨h.ok.take k (by rw [q2]; omega), hl, hsm, q3, ?_, ?_, fun i hi => h.has i ((t4 i).1 hi)⟩, t1, by rw [t3], by rw [q4]; exact q1⟩
  · rw [q2, h.rd, List.length_append, q4]; omega
  · have hq : got.length + q ≤ N := by have := h.rd; omega
    apply List.ext_getElem?
    intro i
    by_cases h1 : i < got.length
    · rw [List.getElem?_append_left h1, List.getElem?_take_of_lt (by rw [List.length_append]; omega)]
      conv => lhs; rw [h.got]
      rw [List.getElem?_take_of_lt h1]
    · by_cases h3 : i < got.length + q
      · rw [List.getElem?_append_right (by omega), q5 _ (by omega), List.getElem?_take_of_lt (by rw [List.length_append]; omega)]
        congr 1
        omega
      · rw [List.getElem?_eq_none (by rw [List.length_append]; omega), List.getElem?_eq_none (by rw [List.length_take, List.length_append]; omega)]
theorem PI.got_le {S : List UInt8} {N : Nat} {b : Bx} {got : List UInt8} (h : PI S N b got) : got.length ≤ N := by
  have := h.rd; have := h.nx; have := h.ok.rdnx; omega
/-- Everything that was received has been read. -/
theorem PI.read {S : List UInt8} {N : Nat} {b : Bx} {got : List UInt8} (h : PI S N b got) {k : Int} (hk : b.nx - b.rd ≤ k) : ((got ++ b.takeS k).length : Int) = b.nx ∧ (b.take k).nx - (b.take k).rd = 0 := by
  obtain ⟨t1, t2, t3, t4⟩ := h.take k
  have h2 := h.ok.rdnx
  have h3 := h.rd
  have h5 := t1.rd
  rw [List.length_append] at h5 ⊢
  rw [t2, h5]
  omega
end Go.Proofs.Ytfeppkgcimgkeaa
