/- recvbuf: the order of the reported blocks, in plain terms: the newest block first, then those that lie highest. -/
import Derived.Test.YtfeppkgcimgkeaaRbCmp
import Derived.Sort.Lot0
import Derived.Shelf.SlSortCmp.Insertion
namespace Go.Proofs.Ytfeppkgcimgkeaa
open Go.Sort
theorem ltB_iff (nw : Int) (x y : Sp) : ltOf (cfB nw) x y = true ↔ (isNew nw x = isNew nw y ∧ y.1 < x.1) ∨ (isNew nw x = true ∧ isNew nw y = false) := by
  unfold ltOf
  rw [decide_eq_true_iff]
  unfold cfB cmpI
  cases isNew nw x <;> cases isNew nw y <;> simp <;> (repeat' split) <;> omega
theorem swoB (nw : Int) : SWO (ltOf (cfB nw)) where
  irrefl x := by
    rw [← Bool.not_eq_true, ltB_iff]
    rintro (h | h)
    · omega
    · rw [h.1] at h; cases h.2
  trans x y z h1 h2 := by
    rw [ltB_iff] at *
    revert h1 h2
    cases isNew nw x <;> cases isNew nw y <;> cases isNew nw z <;> simp <;> omega
  ntrans x y z h1 h2 := by
    rw [← Bool.not_eq_true, ltB_iff] at *
    revert h1 h2
    cases isNew nw x <;> cases isNew nw y <;> cases isNew nw z <;> simp <;> omega
/-- Two sorted lists of the same elements are the same, if the order parts the elements of one. -/
theorem perm_sorted_eq {α : Type} {R : α → α → Prop} : ∀ {l1 l2 : List α}, l1.Perm l2 → l1.Pairwise R → l2.Pairwise (fun x y => ¬ R y x) → l1 = l2
  | [], l2, hp, _, _ => (List.nil_perm.1 hp).symm
  | a :: t1, [], hp, _, _ => by have := hp.length_eq; simp at this
  | a :: t1, b :: t2, hp, h1, h2 => by
    rw [List.pairwise_cons] at h1 h2
    have key : a = b := by
      have hb : b ∈ a :: t1 := hp.mem_iff.2 (by simp)
      have ha : a ∈ b :: t2 := hp.mem_iff.1 (by simp)
      rcases List.mem_cons.1 hb with e | hb
      · exact e.symm
      · rcases List.mem_cons.1 ha with e | ha
        · exact e
        · exact (h2.1 a ha (h1.1 b hb)).elim
    subst key
    rw [perm_sorted_eq ((List.perm_cons a).1 hp) h1.2 h2.2]
/-- The order in which the blocks are reported. -/
def orderL (nw : Int) (bl : List Sp) : List Sp := bl.filter (isNew nw) ++ (bl.filter fun x => !isNew nw x).reverse
theorem orderL_perm (nw : Int) (bl : List Sp) : (orderL nw bl).Perm bl :=
  (List.Perm.append_left _ (List.reverse_perm _)).trans (List.filter_append_perm (isNew nw) bl)
theorem canonF_pairwise {e : Int} {bl : List Sp} (h : canonF e bl = true) : bl.Pairwise (fun x y => x.1 < x.2 ∧ x.2 < y.1) ∧ ∀ x ∈ bl, e < x.1 := by
  induction bl generalizing e with
  | nil => exact ⟨List.Pairwise.nil, fun x hx => by cases hx⟩
  | cons x t ih =>
    rw [canonF_cons] at h
    obtain ⟨i1, i2⟩ := ih h.2
    refine ⟨List.pairwise_cons.2 ⟨fun y hy => ⟨h.1.2.2.1, i2 y hy⟩, i1⟩, fun y hy => ?_⟩
    rcases List.mem_cons.1 hy with rfl | hy
    · exact h.1.2.1
    · have := i2 y hy; omega
theorem orderL_sorted (nw : Int) {e : Int} {bl : List Sp} (h : canonF e bl = true) : (orderL nw bl).Pairwise (fun x y => ltOf (cfB nw) x y = true) := by
  have hp := (canonF_pairwise h).1
  unfold orderL
  rw [List.pairwise_append]
  refine ⟨?_, ?_, fun x hx y hy => ?_⟩
  · refine List.Pairwise.imp_of_mem (fun {x y} hx hy hxy => ?_) (hp.filter (isNew nw))
    have e1 := (List.mem_filter.1 hx).2
    have e2 := (List.mem_filter.1 hy).2
    unfold isNew at e1 e2
    rw [decide_eq_true_iff] at e1 e2
    omega
  · rw [List.pairwise_reverse]
    refine List.Pairwise.imp_of_mem (fun {x y} hx hy hxy => ?_) (hp.filter _)
    have e1 := (List.mem_filter.1 hx).2
    have e2 := (List.mem_filter.1 hy).2
    rw [ltB_iff]
    rw [Bool.not_eq_true'] at e1 e2
    rw [e1, e2]
    exact .inl ⟨rfl, by omega⟩
  · rw [ltB_iff]
    have e1 := (List.mem_filter.1 hx).2
    have e2 := (List.mem_filter.1 (List.mem_reverse.1 hy)).2
    rw [Bool.not_eq_true'] at e2
    exact .inr ⟨e1, e2⟩
/-- What the sort makes of the blocks. -/
theorem order_unique (nw : Int) {bl : List Sp} (h : canonB bl = true) (d' : Array Sp) (hp : PermIn 0 bl.length bl.toArray d') (hs : SortedIn (ltOf (cfB nw)) 0 bl.length d') : d' = (orderL nw bl).toArray := by
  obtain ⟨p1, p2, p3⟩ := hp
  have p1 : d'.size = bl.length := by rw [p1, List.size_toArray]
  have e1 : d'.extract 0 bl.length = d' := by rw [← p1]; simp
  have e2 : bl.toArray.extract 0 bl.length = bl.toArray := by rw [← List.size_toArray]; simp
  rw [e1, e2] at p3
  have key : orderL nw bl = d'.toList := by
    refine perm_sorted_eq (R := fun x y => ltOf (cfB nw) x y = true) ((orderL_perm nw bl).trans p3.symm) (orderL_sorted nw h) ?_
    rw [List.pairwise_iff_getElem]
    intro i j hi hj hij
    have hi' : i < d'.size := by simpa using hi
    have hj' : j < d'.size := by simpa using hj
    have := hs i j (Nat.zero_le _) hij (by omega)
    rw [getElem!_pos d' i hi', getElem!_pos d' j hj'] at this
    rw [Array.getElem_toList, Array.getElem_toList, this]
    exact Bool.false_ne_true
  rw [key]
theorem orderL_length (nw : Int) (bl : List Sp) : (orderL nw bl).length = bl.length := (orderL_perm nw bl).length_eq
/-- The blocks that are reported. -/
def Bx.rep (b : Bx) : List Sp := (orderL b.nw b.bl).take 3
theorem Bx.rep_mem {b : Bx} {x : Sp} (h : x ∈ b.rep) : x ∈ b.bl := (orderL_perm b.nw b.bl).mem_iff.1 (List.mem_of_mem_take h)
theorem Bx.rep_length (b : Bx) : b.rep.length = min b.bl.length 3 := by
  unfold Bx.rep
  rw [List.length_take, orderL_length, Nat.min_comm]
end Go.Proofs.Ytfeppkgcimgkeaa
