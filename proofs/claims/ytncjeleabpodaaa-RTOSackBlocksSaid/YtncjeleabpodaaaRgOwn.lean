/- Slices of spans that a call has made itself: append, and what they read as. -/
import Derived.Test.YtncjeleabpodaaaRgEach
import Derived.WalkKit
import Derived.Laws.AppendOwn
import Derived.Laws.Append
namespace Go.Proofs.Ytncjeleabpodaaa
open Go.RowKit Go.Shelf
/-- As run_append_own; besides, the result lies where the slice lay, or in a new block. -/
theorem run_append_own2 {P : Program} (w : World) (base : Nat) (t ty e : TypeId) (i : TypeInfo) (z : Value) (size bytes : Nat) (ht : P.underlying t = some (.slice e)) (hi : P.info? e = some i) (hz : i.zero = some z)
    (hsize : i.size = size) (hby : i.bytes = bytes) (hzs : z.cells.size = size) (hsz : 0 < size)
    (v : Value) (n : Nat) (xs : List Value) (hown : w.ownsRow base e size v n xs)
    (a : Addr) (m c : Nat) (news : List Value) (hl : news.length = m * size) (hnews : ∀ j u, news[j]? = some u → w.cell? (a.add j) = some u) (h1 : ∀ u ∈ news, u.oneCell' = true)
    (h63 : n + m ≤ maxLen) (hbytes : (n + m) * bytes ≤ 140737488355328) (hbase : base ≤ w.heap.size) :
    ∃ v' w', (Builtin.append_ #[t, t] ty #[v, .slice (some a) m c]).run P w = .ok v' w' ∧ w'.ownsRow base e size v' (n + m) (xs ++ news) ∧ w.grownBy w' v.ownBlock ∧
      (v'.ownBlock = v.ownBlock ∨ ∃ k, v'.ownBlock = some k ∧ w.heap.size ≤ k) := by
  obtain ⟨v', w', hr, h2, h3, h4⟩ := run_append_own (P := P) w base t ty e i z size bytes ht hi hz hsize hby hzs hsz v n xs hown a m c news hl hnews h1 h63 hbytes hbase
  refine ⟨v', w', hr, h2, h3, ?_⟩
  subst hsize
  subst hby
  rcases hown.2 with ⟨rfl, rfl⟩ | ⟨g, cap, cur, rfl, hbg, hg, hnc, hcm, hcs, htake⟩
  · have hx : xs = [] := List.eq_nil_of_length_eq_zero (by simpa using hown.1)
    subst hx
    obtain ⟨v2, w2, hr2, g2, g3, g4⟩ := run_append_own (P := P) w w.heap.size t ty e i z i.size i.bytes ht hi hz rfl rfl hzs hsz _ 0 [] (World.ownsRow_nil w _ e i.size) a m c news hl hnews h1 h63 hbytes (Nat.le_refl _)
    rw [hr] at hr2
    cases hr2
    rcases g2.2 with ⟨rfl, _⟩ | ⟨g, cap, cur, rfl, hbg, _⟩
    · exact .inl rfl
    · exact .inr ⟨g, rfl, hbg⟩
  · by_cases hroom : n + m ≤ cap
    · have hfit : n * i.size + news.length ≤ cur.size := by rw [hl, hcs, ← Nat.add_mul]; exact Nat.mul_le_mul_right _ hroom
      have hr2 := run_append_room (P := P) w t ty e i ht hi g n cap cur hg a m c news hl hnews h1 hroom hfit
      rw [hr] at hr2
      cases hr2
      exact .inl rfl
    · have holds : ∀ j u, xs[j]? = some u → w.cell? ((⟨g, 0, none⟩ : Addr).add j) = some u := hown.cells (g := g) rfl
      have hr2 := run_append_grow (P := P) w t ty e i z ht hi hz ⟨g, 0, none⟩ n cap xs hown.1 holds a m c news hl hnews (by omega) (by simp only [maxLen] at h63; omega) (growslice_fits (by simp only [maxLen] at h63; omega) hbytes)
      rw [hr] at hr2
      cases hr2
      exact .inr ⟨w.heap.size, rfl, Nat.le_refl _⟩
def flatV (L : List Sp) : List Value := L.flatMap fun x => [.int .i64 x.1, .int .i64 x.2]
theorem flatV_append (A B : List Sp) : flatV (A ++ B) = flatV A ++ flatV B := List.flatMap_append ..
theorem flatV_cons (x : Sp) (L : List Sp) : flatV (x :: L) = .int .i64 x.1 :: .int .i64 x.2 :: flatV L := rfl
theorem flatV_length (L : List Sp) : (flatV L).length = L.length * 2 := by
  induction L with
  | nil => rfl
  | cons x L ih => rw [flatV_cons, List.length_cons, List.length_cons, ih, List.length_cons]; omega
theorem flatV_get (L : List Sp) (i : Nat) (h : i < L.length) : (flatV L)[i * 2]? = some (.int .i64 L[i].1) ∧ (flatV L)[i * 2 + 1]? = some (.int .i64 L[i].2) := by
  induction L generalizing i with
  | nil => simp at h
  | cons x L ih =>
    rw [flatV_cons]
    cases i with
    | zero => exact ⟨rfl, rfl⟩
    | succ i =>
      have := ih i (by simpa using h)
      rw [show (i + 1) * 2 = (i * 2 + 1) + 1 by omega, show i * 2 + 1 + 1 + 1 = (i * 2 + 1) + 1 + 1 by omega]
      simpa using this
theorem flatV_one (L : List Sp) : ∀ u ∈ flatV L, u.oneCell' = true := by
  intro u hu
  obtain ⟨x, _, h⟩ := List.mem_flatMap.1 hu
  simp at h
  rcases h with rfl | rfl <;> rfl
theorem spanInfo : (Try.prog.info? 51).map (fun i => (i.zero, i.size, i.bytes)) = some (some (.agg #[.int .i64 0, .int .i64 0]), 2, 16) := by kernel_rfl
/-- The slice v, made by the call itself (its blocks from base on), reads as L. -/
def OwnSp (w : World) (base : Nat) (v : Value) (L : List Sp) : Prop := w.ownsRow base 51 2 v L.length (flatV L)
theorem OwnSp.nil (w : World) (base : Nat) : OwnSp w base (.slice none 0 0) [] := World.ownsRow_nil _ _ _ _
theorem OwnSp.alloc {w : World} {base : Nat} {v : Value} {L : List Sp} (h : OwnSp w base v L) (o : Obj) : OwnSp (w.alloc o) base v L := World.ownsRow.alloc h o
theorem OwnSp.kept {w w' : World} {base : Nat} {v : Value} {L : List Sp} (h : OwnSp w base v L) {row : Option Nat} (hg : w.grownBy w' row) (hne : v.ownBlock = none ∨ v.ownBlock ≠ row) : OwnSp w' base v L := World.ownsRow.kept h hg hne
theorem OwnSp.lt {w : World} {base : Nat} {v : Value} {L : List Sp} (h : OwnSp w base v L) : ∀ k, v.ownBlock = some k → base ≤ k ∧ k < w.heap.size := World.ownsRow.lt h
theorem OwnSp.mono {w : World} {base base' : Nat} {v : Value} {L : List Sp} (h : OwnSp w base v L) (hb : base' ≤ base) : OwnSp w base' v L := by
  refine ⟨h.1, ?_⟩
  rcases h.2 with h | ⟨g, cap, cur, hv, hbg, r⟩
  · exact .inl h
  · exact .inr ⟨g, cap, cur, hv, Nat.le_trans hb hbg, r⟩
theorem OwnSp.val {w : World} {base : Nat} {v : Value} {L : List Sp} (h : OwnSp w base v L) : ∃ a cap, v = .slice a L.length cap ∧ L.length ≤ cap := by
  rcases h.2 with ⟨rfl, hn⟩ | ⟨g, cap, cur, hv, hbg, hg, hnc, hcm, hcs, htake⟩
  · exact ⟨none, 0, by rw [hn], by omega⟩
  · exact ⟨_, cap, hv, hnc⟩
/-- What a slice of one's own reads as. -/
theorem OwnSp.at {w : World} {base : Nat} {v : Value} {L : List Sp} (h : OwnSp w base v L) (hs : L.length ≤ 1099511627776) :
    ∃ a cap, v = .slice a L.length cap ∧ SpAt w w.heap.size a L ∧ L.length ≤ cap ∧ ∀ ad, a = some ad → base ≤ ad.block ∧ v.ownBlock = some ad.block ∧ ad = ⟨ad.block, ad.off, none⟩ := by
  rcases h.2 with ⟨rfl, hn⟩ | ⟨g, cap, cur, hv, hbg, hg, hnc, hcm, hcs, htake⟩
  · refine ⟨none, 0, by rw [hn], ⟨hs, fun hl => by omega⟩, by omega, fun ad e => by cases e⟩
  · refine ⟨some ⟨g, 0, none⟩, cap, hv, ⟨hs, fun _ => ⟨g, 0, rfl, (Array.getElem?_eq_some_iff.1 hg).1, fun i hi => ?_⟩⟩, hnc, fun ad e => by cases e; exact ⟨hbg, by rw [hv]; rfl, rfl⟩⟩
    have hc := World.ownsRow.cells h (g := g) (by rw [hv]; rfl)
    obtain ⟨f1, f2⟩ := flatV_get L i hi
    have c1 := hc _ _ f1
    have c2 := hc _ _ f2
    rw [Addr.add_lit] at c1 c2
    refine ⟨?_, ?_⟩
    · simpa using c1
    · simpa [Nat.add_assoc] using c2
/-- Only a block of the call's own, or new ones, have changed. -/
theorem grown_trans {a b c : World} {r r' : Option Nat} (h : a.grownBy b r) (k : b.grownBy c r') (hr : r' = r ∨ ∀ k, r' = some k → a.heap.size ≤ k) : a.grownBy c r := by
  refine ⟨k.os.trans h.os, k.tape.trans h.tape, k.output.trans h.output, Nat.le_trans h.size k.size, fun i hi hne => (k.block i (Nat.lt_of_lt_of_le hi h.size) ?_).trans (h.block i hi hne)⟩
  rcases hr with rfl | hr
  · exact hne
  · intro e; have := hr i e.symm; omega
theorem grown_below {a b : World} {r : Option Nat} {N : Nat} (h : a.grownBy b r) (hN : N ≤ a.heap.size) (hr : ∀ k, r = some k → N ≤ k) : Below N a b :=
  ⟨h.os, h.tape, h.output, h.size, fun i hi => h.block i (by omega) (fun e => by have := hr i e.symm; omega)⟩
theorem grown_of_below {a b : World} {r : Option Nat} (h : Below a.heap.size a b) : a.grownBy b r :=
  ⟨h.os, h.tape, h.output, h.size, fun i hi _ => h.block i hi⟩
theorem grown_refl (a : World) (r : Option Nat) : a.grownBy a r := ⟨rfl, rfl, rfl, Nat.le_refl _, fun _ _ _ => rfl⟩
/-- Spans that a growing slice leaves alone. -/
theorem SpAt.grown {w w' : World} {n₀ : Nat} {a : Option Addr} {L : List Sp} {r : Option Nat} (h : SpAt w n₀ a L) (hg : w.grownBy w' r) (hn : n₀ ≤ w.heap.size) (hne : 0 < L.length → ∀ ad, a = some ad → r ≠ some ad.block) : SpAt w' n₀ a L :=
  ⟨h.small, fun hl => by
    obtain ⟨b, off, ha, hbl, hc⟩ := h.cells hl
    have hb := hg.block b (by omega) (fun e => hne hl _ ha e.symm)
    exact ⟨b, off, ha, hbl, fun i hi => ⟨(World.cell?_of_block (a := ⟨b, _, none⟩) hb).trans (hc i hi).1, (World.cell?_of_block (a := ⟨b, _, none⟩) hb).trans (hc i hi).2⟩⟩⟩
/-- out = append(out, x): one span. -/
theorem wpList_append_span (w : World) {ops : Array Oper} {rest : List Oper} {o : Oper} {a : Act} {Q : Exit → Act → World → Prop} (hgd : o.guard = none) (s x : Operand)
    (ho : o.op = .call { callee := .builtin .append, args := #[s, x], argTypes := #[29, 29] }) (base : Nat)
    (v : Value) (L : List Sp) (hs : a.eval s = v) (hown : OwnSp w base v L) (hL : L.length ≤ 4398046511104)
    (b : Nat) (y : Sp) (hx : a.eval x = .slice (some ⟨b, 0, none⟩) 1 1) (hc0 : w.cell? ⟨b, 0, none⟩ = some (.int .i64 y.1)) (hc1 : w.cell? ⟨b, 1, none⟩ = some (.int .i64 y.2)) (hbase : base ≤ w.heap.size)
    (h : ∀ v' w', OwnSp w' base v' (L ++ [y]) → w.grownBy w' v.ownBlock → (v'.ownBlock = v.ownBlock ∨ ∃ k, v'.ownBlock = some k ∧ w.heap.size ≤ k) → wpList Try.prog ops Q rest (a.put o.dst v') w') : wpList Try.prog ops Q (o :: rest) a w := by
  obtain ⟨i0, hi, hz0, hz1, hz2⟩ := info_parts spanInfo
  obtain ⟨v', w', hr, h2, h3, h4⟩ := run_append_own2 (P := Try.prog) w base 29 o.type 51 i0 _ 2 16 Try.underlying29 hi hz0 hz1 hz2 rfl (by decide) v L.length (flatV L) hown ⟨b, 0, none⟩ 1 1 [.int .i64 y.1, .int .i64 y.2] rfl
    (by intro j u hj; match j, hj with
      | 0, hj => simp at hj; subst hj; exact hc0
      | 1, hj => simp at hj; subst hj; simpa [Addr.add] using hc1) (by intro u hu; simp at hu; rcases hu with rfl | rfl <;> rfl) (by unfold maxLen; omega) (by omega) hbase
  refine wpList_plain hgd fun K hK => ?_
  unfold Oper.wp execOp
  simp only [ho, resolve, invoke, builtin, Sem.run_bind, Sem.run_pure, Result.andThen_ok, List.map_toArray, List.map_cons, List.map_nil, hs, hx, hr]
  refine hK _ _ (h v' w' ?_ h3 h4)
  show w'.ownsRow _ _ _ _ _ _
  rw [List.length_append, flatV_append]
  exact h2
theorem wpListIn_append_span {F : Fence} {n : Nat} (w : World) {ops : Array Oper} {rest : List Oper} {o : Oper} {a : Act} {Q : Exit → Act → World → Prop} (hgd : o.guard = none) (s x : Operand)
    (ho : o.op = .call { callee := .builtin .append, args := #[s, x], argTypes := #[29, 29] }) (base : Nat)
    (v : Value) (L : List Sp) (hs : a.eval s = v) (hown : OwnSp w base v L) (hL : L.length ≤ 4398046511104)
    (b : Nat) (y : Sp) (hx : a.eval x = .slice (some ⟨b, 0, none⟩) 1 1) (hc0 : w.cell? ⟨b, 0, none⟩ = some (.int .i64 y.1)) (hc1 : w.cell? ⟨b, 1, none⟩ = some (.int .i64 y.2)) (hbase : base ≤ w.heap.size)
    (h : ∀ v' w', OwnSp w' base v' (L ++ [y]) → w.grownBy w' v.ownBlock → (v'.ownBlock = v.ownBlock ∨ ∃ k, v'.ownBlock = some k ∧ w.heap.size ≤ k) → wpListIn F n Try.prog ops Q rest (a.put o.dst v') w') : wpListIn F n Try.prog ops Q (o :: rest) a w := by
  obtain ⟨i0, hi, hz0, hz1, hz2⟩ := info_parts spanInfo
  obtain ⟨v', w', hr, h2, h3, h4⟩ := run_append_own2 (P := Try.prog) w base 29 o.type 51 i0 _ 2 16 Try.underlying29 hi hz0 hz1 hz2 rfl (by decide) v L.length (flatV L) hown ⟨b, 0, none⟩ 1 1 [.int .i64 y.1, .int .i64 y.2] rfl
    (by intro j u hj; match j, hj with
      | 0, hj => simp at hj; subst hj; exact hc0
      | 1, hj => simp at hj; subst hj; simpa [Addr.add] using hc1) (by intro u hu; simp at hu; rcases hu with rfl | rfl <;> rfl) (by unfold maxLen; omega) (by omega) hbase
  refine wpListIn_plain hgd fun K hK' => ?_
  unfold Oper.wpIn
  refine ⟨?_, ?_⟩
  · simp [Oper.about, ho, resolve, Target.leads, Sem.run_pure]
  · rw [Oper.semAt_plain F _ _ (by rw [ho]; intro c hc'; cases hc')]
    simp [execOp, ho, resolve, invoke, builtin, hs, hx, hr, Result.andThen]
    refine hK' _ _ (h v' w' ?_ h3 h4)
    show w'.ownsRow _ _ _ _ _ _
    rw [List.length_append, flatV_append]
    exact h2
end Go.Proofs.Ytncjeleabpodaaa
