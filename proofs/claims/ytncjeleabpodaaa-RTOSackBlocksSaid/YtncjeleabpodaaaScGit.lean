/- The iterator over the gaps of a scoreboard. -/
import Derived.Test.YtncjeleabpodaaaScRet
import Derived.Test.YtncjeleabpodaaaScGp
import Derived.Deep.LoopGhost
namespace Go.Proofs.Ytncjeleabpodaaa
open Go.RowKit Go.Shelf
/-- What the iterator reads: it lies below block n₀. -/
structure Gv (n₀ C M B : Nat) (s : Sc) (m : Int) (sa : Option Addr) (sc : Nat) (W : World) : Prop where
  cC : W.cell? ⟨C, 0, none⟩ = some (.pointer (some ⟨B, 0, none⟩))
  cM : W.cell? ⟨M, 0, none⟩ = some (.int .i64 m)
  c0 : W.cell? ⟨B, 0, none⟩ = some (.int .i64 s.una)
  c1 : W.cell? ⟨B, 1, none⟩ = some (.int .i64 s.next)
  c2 : W.cell? ⟨B, 2, none⟩ = some (.int .i64 s.mark)
  c3 : W.cell? ⟨B, 3, none⟩ = some (.slice sa s.sk.length sc)
  ls : SpAt W n₀ sa s.sk
  cap : s.sk.length ≤ sc
  lt : B < n₀
  hz : n₀ ≤ W.heap.size
theorem cell_bel {n₀ B i : Nat} {v : Value} {w w' : World} (h : w.cell? ⟨B, i, none⟩ = some v) (hB : B < n₀) (hb : Below n₀ w w') : w'.cell? ⟨B, i, none⟩ = some v :=
  (hb.cell (p := ⟨B, i, none⟩) hB).trans h
theorem Gv.next {n₀ C M B : Nat} {s : Sc} {m : Int} {sa : Option Addr} {sc : Nat} {W W' : World} (h : Gv n₀ C M B s m sa sc W) (hb : Below n₀ W W') (hC : W'.cell? ⟨C, 0, none⟩ = some (.pointer (some ⟨B, 0, none⟩))) (hM : W'.cell? ⟨M, 0, none⟩ = some (.int .i64 m)) : Gv n₀ C M B s m sa sc W' :=
  ⟨hC, hM, cell_bel h.c0 h.lt hb, cell_bel h.c1 h.lt hb, cell_bel h.c2 h.lt hb, cell_bel h.c3 h.lt hb, h.ls.below hb, h.cap, h.lt, Nat.le_trans h.hz hb.size⟩
theorem Gv.below {n₀ C M B : Nat} {s : Sc} {m : Int} {sa : Option Addr} {sc : Nat} {W W' : World} (h : Gv n₀ C M B s m sa sc W) (hb : Below W.heap.size W W') : Gv n₀ C M B s m sa sc W' :=
  h.next (hb.mono h.hz) (cell_bel h.cC (block_lt_of_cell h.cC) hb) (cell_bel h.cM (block_lt_of_cell h.cM) hb)
/-- The same, with the list of gaps that the iterator made, in a block that the body may not change (cl: those that it may). -/
structure Gi (n₀ N C M B : Nat) (s : Sc) (m : Int) (sa : Option Addr) (sc : Nat) (ga : Option Addr) (cl : World → Nat → Prop) (W : World) : Prop where
  g : Gv n₀ C M B s m sa sc W
  gl : SpAt W W.heap.size ga s.gaps
  own : ∀ ad, ga = some ad → N ≤ ad.block ∧ ¬ cl W ad.block
/-- What the loop over the gaps keeps. -/
def Gr (n₀ N C M B : Nat) (s : Sc) (m : Int) (sa : Option Addr) (sc : Nat) (ga : Option Addr) (cl : World → Nat → Prop) (J : Nat → World → Prop) (g : Nat) (kv spv smv : Value) (W : World) : Prop :=
  ∃ (k : Nat) (sp : List Sp) (a : Option Addr) (c : Nat), kv = .int .i64 (k : Int) ∧ g + k = s.gaps.length ∧ spv = .slice a sp.length c ∧ smv = .int .i64 (countF sp) ∧ SpAt W n₀ a sp ∧ sp.length ≤ c ∧ (∃ e, canonF e sp = true) ∧
    (∀ i (h : i < s.gaps.length), k ≤ i → upL s.gaps[i].1 sp = upL s.gaps[i].1 s.sk) ∧ Gi n₀ N C M B s m sa sc ga cl W ∧ J k W ∧ N ≤ W.heap.size
/-- What the loop that drops spans keeps. -/
def Gq (n₀ N C M B : Nat) (s : Sc) (m : Int) (sa : Option Addr) (sc : Nat) (ga : Option Addr) (cl : World → Nat → Prop) (J : Nat → World → Prop) (k X : Nat) (x1 x2 : Int) (g : Nat) (spv smv : Value) (W : World) : Prop :=
  ∃ (sp : List Sp) (a : Option Addr) (c : Nat), g = sp.length ∧ spv = .slice a sp.length c ∧ smv = .int .i64 (countF sp) ∧ SpAt W n₀ a sp ∧ sp.length ≤ c ∧ (∃ e, canonF e sp = true) ∧
    (∀ i (h : i < s.gaps.length), k ≤ i → upL s.gaps[i].1 sp = upL s.gaps[i].1 s.sk) ∧ Gi n₀ N C M B s m sa sc ga cl W ∧ J k W ∧ N ≤ W.heap.size ∧ At X 0 (.int .i64 x1) W ∧ At X 1 (.int .i64 x2) W ∧ N ≤ X
theorem spat_tail {W : World} {n₀ b off : Nat} {y : Sp} {t : List Sp} (h : SpAt W n₀ (some ⟨b, off, none⟩) (y :: t)) : SpAt W n₀ (some ⟨b, off + 2, none⟩) t := by
  refine ⟨by have := h.small; rw [List.length_cons] at this; omega, fun hl => ?_⟩
  obtain ⟨b1, o1, e, hb, hcs⟩ := h.cells (by simp)
  cases e
  refine ⟨b, off + 2, rfl, hb, fun i hi => ?_⟩
  have := hcs (i + 1) (by simp; omega)
  rw [List.getElem_cons_succ] at this
  rw [show off + 2 + i * 2 = off + (i + 1) * 2 by omega]
  exact this
theorem Gi.below {n₀ N C M B : Nat} {s : Sc} {m : Int} {sa : Option Addr} {sc : Nat} {ga : Option Addr} {cl : World → Nat → Prop} {W W' : World} (h : Gi n₀ N C M B s m sa sc ga cl W) (hb : Below W.heap.size W W') (hc : ∀ b, cl W' b → cl W b) : Gi n₀ N C M B s m sa sc ga cl W' :=
  ⟨h.g.below hb, (h.gl.below hb).mono hb.size, fun ad e => ⟨(h.own ad e).1, fun hcl => (h.own ad e).2 (hc _ hcl)⟩⟩
theorem Gi.next {n₀ N C M B : Nat} {s : Sc} {m : Int} {sa : Option Addr} {sc : Nat} {ga : Option Addr} {cl : World → Nat → Prop} {W W' : World} (h : Gi n₀ N C M B s m sa sc ga cl W) (hb : Below n₀ W W') (_hsz : N ≤ W.heap.size) (hcl : ∀ b, b < W.heap.size → N ≤ b → ¬ cl W b → W'.heap[b]? = W.heap[b]? ∧ ¬ cl W' b) (hlt : ∀ ad, ga = some ad → ad.block < W.heap.size) (hC : W'.cell? ⟨C, 0, none⟩ = some (.pointer (some ⟨B, 0, none⟩)) ∧ W'.cell? ⟨M, 0, none⟩ = some (.int .i64 m)) : Gi n₀ N C M B s m sa sc ga cl W' := by
  refine ⟨h.g.next hb hC.1 hC.2, ⟨h.gl.small, fun hl => ?_⟩, fun ad e => ⟨(h.own ad e).1, (hcl _ (hlt ad e) (h.own ad e).1 (h.own ad e).2).2⟩⟩
  obtain ⟨b, off, ha, hbl, hc⟩ := h.gl.cells hl
  have hk := (hcl b hbl (h.own _ ha).1 (h.own _ ha).2).1
  exact ⟨b, off, ha, Nat.lt_of_lt_of_le hbl hb.size, fun i hi => ⟨(World.cell?_of_block (a := ⟨b, _, none⟩) hk).trans (hc i hi).1, (World.cell?_of_block (a := ⟨b, _, none⟩) hk).trans (hc i hi).2⟩⟩
set_option maxRecDepth 100000 in
set_option maxHeartbeats 4000000 in
theorem gapsit_in (n : Nat) (hn : 1 ≤ n) (l n₀ C M B : Nat) (s : Sc) (ok : s.Ok) (m : Int) (sa : Option Addr) (sc : Nat) (w : World) (cl : World → Nat → Prop) (J Jx : Nat → World → Prop)
    (hJ : ∀ k W W', J k W → Below W.heap.size W W' → J k W' ∧ ∀ b, cl W' b → cl W b ∧ b < W.heap.size)
    (hY : ∀ k (h : k < s.gaps.length) W1, J k W1 → YieldAt Fence.wide (n - 1) Try.prog l #[.agg #[.int .i64 s.gaps[k].1, .int .i64 s.gaps[k].2], .agg #[.int .i64 (s.lostOf m s.gaps[k]).1, .int .i64 (s.lostOf m s.gaps[k]).2]] W1 fun e W' =>
      (e = .returned (.bool true) ∧ J (k + 1) W' ∧ Below n₀ W1 W' ∧ ∀ b, b < W1.heap.size → w.heap.size ≤ b → ¬ cl W1 b → W'.heap[b]? = W1.heap[b]? ∧ ¬ cl W' b) ∨ (e = .returned (.bool false) ∧ Jx k W'))
    (hJC : ∀ k W, J k W → W.cell? ⟨C, 0, none⟩ = some (.pointer (some ⟨B, 0, none⟩)) ∧ W.cell? ⟨M, 0, none⟩ = some (.int .i64 m)) (hG : Gv n₀ C M B s m sa sc w) (h0 : J 0 w) :
    CallsIn Fence.wide n Try.prog 97 #[.func (.yield l) #[] #[], .pointer (some ⟨C, 0, none⟩), .pointer (some ⟨M, 0, none⟩)] w fun e W' => (∃ v, e = .returned v) ∧ (J s.gaps.length W' ∨ ∃ k, k < s.gaps.length ∧ Jx k W') := by
  have HOK := Lib.hid ok
  have HG := Lib.hid hG
  have HJ := Lib.hid hJ
  have HJC := Lib.hid hJC
  have HY := Lib.hid hY
  have HJ0 := Lib.hid h0
  have HCN := Lib.hid (show countL s.sk = countF s.sk by unfold countL; rw [if_pos ok.csk])
  have HMO := Lib.hid (show ∀ i j (h1 : i ≤ j) (h2 : j < s.gaps.length), s.gaps[i].1 ≤ s.gaps[j].1 from gaps_rise s)
  have HGL := Lib.hid (show s.gaps.length ≤ 1099511627776 from gaps_len s)
  clear ok hG hJ hJC hY h0
  refine callsIn_of_wp Try.func97 rfl trivial ?_ rfl
  simp only [Try.ntmps97, List.size_toArray, List.length_cons, List.length_nil, Nat.reduceAdd, Nat.reduceSub, Array.replicate_succ, Array.replicate_zero, List.push_toArray, List.append_toArray, List.nil_append, List.cons_append]
  refine wpIn_wide.2 ?_
  have hK := (show w.cell? ⟨C, 0, none⟩ = some (.pointer (some ⟨B, 0, none⟩)) ∧ w.cell? ⟨B, 0, none⟩ = some (.int .i64 s.una) ∧ w.cell? ⟨B, 1, none⟩ = some (.int .i64 s.next) ∧ w.cell? ⟨B, 3, none⟩ = some (.slice sa s.sk.length sc) from ⟨HG.out.cC, HG.out.c0, HG.out.c1, HG.out.c3⟩)
  go_wp2_with fail
  refine wp_region_held_drew (S := (fun W : World => W.cell? ⟨C, 0, none⟩ = some (.pointer (some ⟨B, 0, none⟩)) ∧ W.cell? ⟨B, 0, none⟩ = some (.int .i64 s.una) ∧ W.cell? ⟨B, 1, none⟩ = some (.int .i64 s.next) ∧ W.cell? ⟨B, 3, none⟩ = some (.slice sa s.sk.length sc))) (by kernel_rfl) (hK) (fun hHeld => ?_)
  clear hK
  replace HG := Lib.hid (HG.out.below (Below.refl _ w).drew)
  replace HJ0 := Lib.hid (HJ.out 0 w w.drew HJ0.out (Below.refl _ _).drew).1
  have HSZ := Lib.hid (Nat.le_refl w.heap.size)
  obtain ⟨y0, hy0⟩ : ∃ y0, y0 = w.drew := ⟨_, rfl⟩
  replace HSZ : Hid (w.heap.size ≤ y0.heap.size) := by rw [hy0]; exact HSZ
  rw [← hy0] at HG HJ0 hHeld ⊢
  clear hy0
  refine wpAnyH_take (i := 0) (v := ?_) (by simp only [List.getElem?_toArray, List.getElem?_cons_zero]; rfl) (by kernel_rfl) (by kernel_rfl) (by kernel_rfl) (by exact fun _ _ _ h => h) (Or.inl ⟨by rfl, ?_⟩) (by assumption) ?_
  rotate_left 1
  · intro w hSw; (obtain ⟨z0, z1, z2, z3⟩ := hSw); go_simp; (try with_reducible rfl)
  (try simp only [Act.put, List.setIfInBounds_toArray, List.set_cons_zero, List.set_cons_succ])
  refine wpAnyH_take (i := 4) (v := ?_) (by simp only [List.getElem?_toArray, List.getElem?_cons_succ, List.getElem?_cons_zero]; rfl) (by kernel_rfl) (by kernel_rfl) (by kernel_rfl) (by exact fun _ _ _ h => h) (Or.inl ⟨by rfl, ?_⟩) (by assumption) ?_
  rotate_left 1
  · intro w hSw; (obtain ⟨z0, z1, z2, z3⟩ := hSw); go_simp; (try with_reducible rfl)
  (try simp only [Act.put, List.setIfInBounds_toArray, List.set_cons_zero, List.set_cons_succ])
  refine wpAnyH_take (i := 1) (v := ?_) (by simp only [List.getElem?_toArray, List.getElem?_cons_succ, List.getElem?_cons_zero]; rfl) (by kernel_rfl) (by kernel_rfl) (by kernel_rfl) (by exact fun _ _ _ h => h) (Or.inl ⟨by rfl, ?_⟩) (by assumption) ?_
  rotate_left 1
  · intro w hSw; (obtain ⟨z0, z1, z2, z3⟩ := hSw); go_simp; (try with_reducible rfl)
  (try simp only [Act.put, List.setIfInBounds_toArray, List.set_cons_zero, List.set_cons_succ])
  refine wpAnyH_take (i := 5) (v := ?_) (by simp only [List.getElem?_toArray, List.getElem?_cons_succ, List.getElem?_cons_zero]; rfl) (by kernel_rfl) (by kernel_rfl) (by kernel_rfl) (by exact fun _ _ _ h => h) (Or.inl ⟨by rfl, ?_⟩) (by assumption) ?_
  rotate_left 1
  · intro w hSw; (obtain ⟨z0, z1, z2, z3⟩ := hSw); go_simp; (try with_reducible rfl)
  (try simp only [Act.put, List.setIfInBounds_toArray, List.set_cons_zero, List.set_cons_succ])
  refine wpAnyH_take (i := 2) (v := ?_) (by simp only [List.getElem?_toArray, List.getElem?_cons_succ, List.getElem?_cons_zero]; rfl) (by kernel_rfl) (by kernel_rfl) (by kernel_rfl) (by exact fun _ _ _ h => h) (Or.inl ⟨by rfl, ?_⟩) (by assumption) ?_
  rotate_left 1
  · intro w hSw; (obtain ⟨z0, z1, z2, z3⟩ := hSw); go_simp; (try with_reducible rfl)
  (try simp only [Act.put, List.setIfInBounds_toArray, List.set_cons_zero, List.set_cons_succ])
  refine wpAnyH_take (i := 6) (v := ?_) (by simp only [List.getElem?_toArray, List.getElem?_cons_succ, List.getElem?_cons_zero]; rfl) (by kernel_rfl) (by kernel_rfl) (by kernel_rfl) (by exact fun _ _ _ h => h) (Or.inl ⟨by rfl, ?_⟩) (by assumption) ?_
  rotate_left 1
  · intro w hSw; (obtain ⟨z0, z1, z2, z3⟩ := hSw); go_simp; (try with_reducible rfl)
  (try simp only [Act.put, List.setIfInBounds_toArray, List.set_cons_zero, List.set_cons_succ])
  refine wpAnyH_take (i := 3) (v := ?_) (by simp only [List.getElem?_toArray, List.getElem?_cons_succ, List.getElem?_cons_zero]; rfl) (by kernel_rfl) (by kernel_rfl) (by kernel_rfl) (by exact fun _ _ _ h => h) (Or.inl ⟨by rfl, ?_⟩) (by assumption) ?_
  rotate_left 1
  · intro w hSw; (obtain ⟨z0, z1, z2, z3⟩ := hSw); go_simp; (try with_reducible rfl)
  (try simp only [Act.put, List.setIfInBounds_toArray, List.set_cons_zero, List.set_cons_succ])
  refine wpAnyH_take (i := 7) (v := ?_) (by simp only [List.getElem?_toArray, List.getElem?_cons_succ, List.getElem?_cons_zero]; rfl) (by kernel_rfl) (by kernel_rfl) (by kernel_rfl) (by exact fun _ _ _ h => h) (Or.inl ⟨by rfl, ?_⟩) (by assumption) ?_
  rotate_left 1
  · intro w hSw; (obtain ⟨z0, z1, z2, z3⟩ := hSw); go_simp; (try with_reducible rfl)
  (try simp only [Act.put, List.setIfInBounds_toArray, List.set_cons_zero, List.set_cons_succ])
  refine wpAnyH_ready (rs := [8]) (by kernel_rfl) (by simp) ?_
  refine AllReadyH.cons (by simp only [List.getElem?_toArray, List.getElem?_cons_succ, List.getElem?_cons_zero]; rfl) (fun Kq hKq => ?_) AllReadyH.nil
  go_simp
  refine (count_any y0 n₀ sa sc s.sk HG.out.ls HG.out.hz).mono ?_
  rintro e y1 ⟨rfl, hb⟩
  replace HG := Lib.hid (HG.out.below hb)
  replace HJ0 := Lib.hid (HJ.out 0 _ _ HJ0.out hb).1
  replace HSZ := Lib.hid (Nat.le_trans HSZ.out hb.size)
  clear hb
  have hK := (show y1.cell? ⟨C, 0, none⟩ = some (.pointer (some ⟨B, 0, none⟩)) ∧ y1.cell? ⟨B, 0, none⟩ = some (.int .i64 s.una) ∧ y1.cell? ⟨B, 1, none⟩ = some (.int .i64 s.next) ∧ y1.cell? ⟨B, 3, none⟩ = some (.slice sa s.sk.length sc) from ⟨HG.out.cC, HG.out.c0, HG.out.c1, HG.out.c3⟩)
  go_simp
  refine hKq.out _ _ (hK) (fun hHeld2 => ?_)
  clear hKq Kq hHeld
  (try simp only [Act.put, List.setIfInBounds_toArray, List.set_cons_zero, List.set_cons_succ])
  have hHeld := hHeld2
  clear hHeld2
  clear hK
  rw [HCN.out]
  refine wpAnyH_take (i := 9) (v := ?_) (by simp only [List.getElem?_toArray, List.getElem?_cons_succ, List.getElem?_cons_zero]; rfl) (by kernel_rfl) (by kernel_rfl) (by kernel_rfl) (by exact fun _ _ _ h => h) (Or.inl ⟨by rfl, ?_⟩) (by assumption) ?_
  rotate_left 1
  · intro w hSw; (try dsimp only at hSw); go_simp; (try with_reducible rfl)
  (try simp only [Act.put, List.setIfInBounds_toArray, List.set_cons_zero, List.set_cons_succ])
  refine wpAnyH_take (i := 10) (v := ?_) (by simp only [List.getElem?_toArray, List.getElem?_cons_succ, List.getElem?_cons_zero]; rfl) (by kernel_rfl) (by kernel_rfl) (by kernel_rfl) (by exact fun _ _ _ h => h) (Or.inl ⟨by rfl, ?_⟩) (by assumption) ?_
  rotate_left 1
  · intro w hSw; (try dsimp only at hSw); go_simp; (try with_reducible rfl)
  (try simp only [Act.put, List.setIfInBounds_toArray, List.set_cons_zero, List.set_cons_succ])
  refine wpAnyH_done (by kernel_rfl) ?_ _
  clear hHeld
  go_wp2_with fail
  have hK := (show y1.cell? ⟨C, 0, none⟩ = some (.pointer (some ⟨B, 0, none⟩)) ∧ y1.cell? ⟨B, 0, none⟩ = some (.int .i64 s.una) ∧ y1.cell? ⟨B, 1, none⟩ = some (.int .i64 s.next) ∧ y1.cell? ⟨B, 3, none⟩ = some (.slice sa s.sk.length sc) from ⟨HG.out.cC, HG.out.c0, HG.out.c1, HG.out.c3⟩)
  refine wp_region_held_drew (S := (fun W : World => W.cell? ⟨C, 0, none⟩ = some (.pointer (some ⟨B, 0, none⟩)) ∧ W.cell? ⟨B, 0, none⟩ = some (.int .i64 s.una) ∧ W.cell? ⟨B, 1, none⟩ = some (.int .i64 s.next) ∧ W.cell? ⟨B, 3, none⟩ = some (.slice sa s.sk.length sc))) (by kernel_rfl) (hK) (fun hHeld => ?_)
  clear hK
  replace HG := Lib.hid (HG.out.below (Below.refl _ y1).drew)
  replace HJ0 := Lib.hid (HJ.out 0 y1 y1.drew HJ0.out (Below.refl _ _).drew).1
  obtain ⟨y2, hy2⟩ : ∃ y2, y2 = y1.drew := ⟨_, rfl⟩
  replace HSZ : Hid (w.heap.size ≤ y2.heap.size) := by rw [hy2]; exact HSZ
  rw [← hy2] at HG HJ0 hHeld ⊢
  clear hy2
  refine wpAnyH_take (i := 0) (v := ?_) (by simp only [List.getElem?_toArray, List.getElem?_cons_zero]; rfl) (by kernel_rfl) (by kernel_rfl) (by kernel_rfl) (by exact fun _ _ _ h => h) (Or.inl ⟨by rfl, ?_⟩) (by assumption) ?_
  rotate_left 1
  · intro w hSw; (obtain ⟨z0, z1, z2, z3⟩ := hSw); go_simp; (try with_reducible rfl)
  (try simp only [Act.put, List.setIfInBounds_toArray, List.set_cons_zero, List.set_cons_succ])
  refine wpAnyH_take (i := 4) (v := ?_) (by simp only [List.getElem?_toArray, List.getElem?_cons_succ, List.getElem?_cons_zero]; rfl) (by kernel_rfl) (by kernel_rfl) (by kernel_rfl) (by exact fun _ _ _ h => h) (Or.inl ⟨by rfl, ?_⟩) (by assumption) ?_
  rotate_left 1
  · intro w hSw; (obtain ⟨z0, z1, z2, z3⟩ := hSw); go_simp; (try with_reducible rfl)
  (try simp only [Act.put, List.setIfInBounds_toArray, List.set_cons_zero, List.set_cons_succ])
  refine wpAnyH_take (i := 8) (v := ?_) (by simp only [List.getElem?_toArray, List.getElem?_cons_succ, List.getElem?_cons_zero]; rfl) (by kernel_rfl) (by kernel_rfl) (by kernel_rfl) (by exact fun _ _ _ h => h) (Or.inl ⟨by rfl, ?_⟩) (by assumption) ?_
  rotate_left 1
  · intro w hSw; (obtain ⟨z0, z1, z2, z3⟩ := hSw); go_simp; (try with_reducible rfl)
  (try simp only [Act.put, List.setIfInBounds_toArray, List.set_cons_zero, List.set_cons_succ])
  refine wpAnyH_take (i := 15) (v := ?_) (by simp only [List.getElem?_toArray, List.getElem?_cons_succ, List.getElem?_cons_zero]; rfl) (by kernel_rfl) (by kernel_rfl) (by kernel_rfl) (by exact fun _ _ _ h => h) (Or.inl ⟨by rfl, ?_⟩) (by assumption) ?_
  rotate_left 1
  · intro w hSw; (obtain ⟨z0, z1, z2, z3⟩ := hSw); go_simp; (try with_reducible rfl)
  (try simp only [Act.put, List.setIfInBounds_toArray, List.set_cons_zero, List.set_cons_succ])
  refine wpAnyH_take (i := 1) (v := ?_) (by simp only [List.getElem?_toArray, List.getElem?_cons_succ, List.getElem?_cons_zero]; rfl) (by kernel_rfl) (by kernel_rfl) (by kernel_rfl) (by exact fun _ _ _ h => h) (Or.inl ⟨by rfl, ?_⟩) (by assumption) ?_
  rotate_left 1
  · intro w hSw; (obtain ⟨z0, z1, z2, z3⟩ := hSw); go_simp; (try with_reducible rfl)
  (try simp only [Act.put, List.setIfInBounds_toArray, List.set_cons_zero, List.set_cons_succ])
  refine wpAnyH_take (i := 5) (v := ?_) (by simp only [List.getElem?_toArray, List.getElem?_cons_succ, List.getElem?_cons_zero]; rfl) (by kernel_rfl) (by kernel_rfl) (by kernel_rfl) (by exact fun _ _ _ h => h) (Or.inl ⟨by rfl, ?_⟩) (by assumption) ?_
  rotate_left 1
  · intro w hSw; (obtain ⟨z0, z1, z2, z3⟩ := hSw); go_simp; (try with_reducible rfl)
  (try simp only [Act.put, List.setIfInBounds_toArray, List.set_cons_zero, List.set_cons_succ])
  refine wpAnyH_take (i := 9) (v := ?_) (by simp only [List.getElem?_toArray, List.getElem?_cons_succ, List.getElem?_cons_zero]; rfl) (by kernel_rfl) (by kernel_rfl) (by kernel_rfl) (by exact fun _ _ _ h => h) (Or.inl ⟨by rfl, ?_⟩) (by assumption) ?_
  rotate_left 1
  · intro w hSw; (obtain ⟨z0, z1, z2, z3⟩ := hSw); go_simp; (try with_reducible rfl)
  (try simp only [Act.put, List.setIfInBounds_toArray, List.set_cons_zero, List.set_cons_succ])
  refine wpAnyH_take (i := 2) (v := ?_) (by simp only [List.getElem?_toArray, List.getElem?_cons_succ, List.getElem?_cons_zero]; rfl) (by kernel_rfl) (by kernel_rfl) (by kernel_rfl) (by exact fun _ _ _ h => h) (Or.inl ⟨by rfl, ?_⟩) (by assumption) ?_
  rotate_left 1
  · intro w hSw; (obtain ⟨z0, z1, z2, z3⟩ := hSw); go_simp; (try with_reducible rfl)
  (try simp only [Act.put, List.setIfInBounds_toArray, List.set_cons_zero, List.set_cons_succ])
  refine wpAnyH_take (i := 6) (v := ?_) (by simp only [List.getElem?_toArray, List.getElem?_cons_succ, List.getElem?_cons_zero]; rfl) (by kernel_rfl) (by kernel_rfl) (by kernel_rfl) (by exact fun _ _ _ h => h) (Or.inl ⟨by rfl, ?_⟩) (by assumption) ?_
  rotate_left 1
  · intro w hSw; (obtain ⟨z0, z1, z2, z3⟩ := hSw); go_simp; (try with_reducible rfl)
  (try simp only [Act.put, List.setIfInBounds_toArray, List.set_cons_zero, List.set_cons_succ])
  refine wpAnyH_take (i := 10) (v := ?_) (by simp only [List.getElem?_toArray, List.getElem?_cons_succ, List.getElem?_cons_zero]; rfl) (by kernel_rfl) (by kernel_rfl) (by kernel_rfl) (by exact fun _ _ _ h => h) (Or.inl ⟨by rfl, ?_⟩) (by assumption) ?_
  rotate_left 1
  · intro w hSw; (obtain ⟨z0, z1, z2, z3⟩ := hSw); go_simp; (try with_reducible rfl)
  (try simp only [Act.put, List.setIfInBounds_toArray, List.set_cons_zero, List.set_cons_succ])
  refine wpAnyH_take (i := 3) (v := ?_) (by simp only [List.getElem?_toArray, List.getElem?_cons_succ, List.getElem?_cons_zero]; rfl) (by kernel_rfl) (by kernel_rfl) (by kernel_rfl) (by exact fun _ _ _ h => h) (Or.inl ⟨by rfl, ?_⟩) (by assumption) ?_
  rotate_left 1
  · intro w hSw; (obtain ⟨z0, z1, z2, z3⟩ := hSw); go_simp; (try with_reducible rfl)
  (try simp only [Act.put, List.setIfInBounds_toArray, List.set_cons_zero, List.set_cons_succ])
  refine wpAnyH_take (i := 7) (v := ?_) (by simp only [List.getElem?_toArray, List.getElem?_cons_succ, List.getElem?_cons_zero]; rfl) (by kernel_rfl) (by kernel_rfl) (by kernel_rfl) (by exact fun _ _ _ h => h) (Or.inl ⟨by rfl, ?_⟩) (by assumption) ?_
  rotate_left 1
  · intro w hSw; (obtain ⟨z0, z1, z2, z3⟩ := hSw); go_simp; (try with_reducible rfl)
  (try simp only [Act.put, List.setIfInBounds_toArray, List.set_cons_zero, List.set_cons_succ])
  refine wpAnyH_take (i := 11) (v := ?_) (by simp only [List.getElem?_toArray, List.getElem?_cons_succ, List.getElem?_cons_zero]; rfl) (by kernel_rfl) (by kernel_rfl) (by kernel_rfl) (by exact fun _ _ _ h => h) (Or.inl ⟨by rfl, ?_⟩) (by assumption) ?_
  rotate_left 1
  · intro w hSw; (obtain ⟨z0, z1, z2, z3⟩ := hSw); go_simp; (try with_reducible rfl)
  (try simp only [Act.put, List.setIfInBounds_toArray, List.set_cons_zero, List.set_cons_succ])
  refine wpAnyH_take (i := 12) (v := ?_) (by simp only [List.getElem?_toArray, List.getElem?_cons_succ, List.getElem?_cons_zero]; rfl) (by kernel_rfl) (by kernel_rfl) (by kernel_rfl) (by exact fun _ _ _ h => h) (Or.inl ⟨by rfl, ?_⟩) (by assumption) ?_
  rotate_left 1
  · intro w hSw; (obtain ⟨z0, z1, z2, z3⟩ := hSw); go_simp; (try with_reducible rfl)
  (try simp only [Act.put, List.setIfInBounds_toArray, List.set_cons_zero, List.set_cons_succ])
  refine wpAnyH_ready (rs := [13]) (by kernel_rfl) (by simp) ?_
  refine AllReadyH.cons (by simp only [List.getElem?_toArray, List.getElem?_cons_succ, List.getElem?_cons_zero]; rfl) (fun Kq hKq => ?_) AllReadyH.nil
  go_simp
  refine (gaps_any y2 n₀ sa sc s.sk (s.una, s.next) HG.out.ls HG.out.hz).mono ?_
  rintro e y3 ⟨v, rfl, hO, hb⟩
  rw [show gapsL s.sk (s.una, s.next) = s.gaps from rfl] at hO
  obtain ⟨ga, gc, rfl, hsp, -, hap⟩ := hO.at HGL.out
  have hcl := (HJ.out 0 _ _ HJ0.out hb).2
  have HI := Lib.hid (show Gi n₀ w.heap.size C M B s m sa sc ga cl y3 from ⟨HG.out.below hb, hsp, fun ad e => ⟨Nat.le_trans HSZ.out (hap ad e).1, fun h => by have := (hcl _ h).2; have := (hap ad e).1; omega⟩⟩)
  replace HJ0 := Lib.hid (HJ.out 0 _ _ HJ0.out hb).1
  replace HSZ := Lib.hid (Nat.le_trans HSZ.out hb.size)
  clear hO hb hsp hap hcl HG
  have hK := (show y3.cell? ⟨C, 0, none⟩ = some (.pointer (some ⟨B, 0, none⟩)) ∧ y3.cell? ⟨B, 0, none⟩ = some (.int .i64 s.una) ∧ y3.cell? ⟨B, 1, none⟩ = some (.int .i64 s.next) ∧ y3.cell? ⟨B, 3, none⟩ = some (.slice sa s.sk.length sc) from ⟨HI.out.g.cC, HI.out.g.c0, HI.out.g.c1, HI.out.g.c3⟩)
  go_simp
  refine hKq.out _ _ (hK) (fun hHeld2 => ?_)
  clear hKq Kq hHeld
  (try simp only [Act.put, List.setIfInBounds_toArray, List.set_cons_zero, List.set_cons_succ])
  have hHeld := hHeld2
  clear hHeld2
  clear hK
  refine wpAnyH_take (i := 14) (v := ?_) (by simp only [List.getElem?_toArray, List.getElem?_cons_succ, List.getElem?_cons_zero]; rfl) (by kernel_rfl) (by kernel_rfl) (by kernel_rfl) (by exact fun _ _ _ h => h) (Or.inl ⟨by rfl, ?_⟩) (by assumption) ?_
  rotate_left 1
  · intro w hSw; (try dsimp only at hSw); go_simp; (try with_reducible rfl)
  (try simp only [Act.put, List.setIfInBounds_toArray, List.set_cons_zero, List.set_cons_succ])
  refine wpAnyH_done (by kernel_rfl) ?_ _
  clear hHeld
  go_wp2_with fail
  obtain ⟨e0, he0⟩ := (⟨_, HOK.out.csk⟩ : ∃ e, canonF e s.sk = true)
  have HCA0 := Lib.hid he0
  clear he0
  go_loopg [33, 4, 5] s.gaps.length (fun g kv spv smv wr => Gr n₀ w.heap.size C M B s m sa sc ga cl J g kv spv smv wr)
  case atStart => exact ⟨0, s.sk, sa, sc, rfl, by omega, rfl, rfl, HI.out.g.ls, HI.out.g.cap, ⟨e0, HCA0.out⟩, fun i h _ => rfl, HI.out, HJ0.out, HSZ.out⟩
  case round =>
    clear HI HJ0 HSZ HCA0
    obtain ⟨k, sp, a, c, rfl, hg, rfl, rfl, hls, hcap, ⟨e0, hca⟩, hup, hI, hJk, hsz⟩ := hrel
    have HI := Lib.hid hI
    have HUP := Lib.hid hup
    have HCA := Lib.hid hca
    have HLS := Lib.hid hls
    have HJK := Lib.hid hJk
    have HSZ := Lib.hid hsz
    clear hI hup hca hls hJk hsz
    by_cases hk : k < s.gaps.length
    · obtain ⟨b0, o0, rfl, hb, hcs⟩ := HI.out.gl.cells (by omega)
      obtain ⟨d0, d1⟩ := hcs k hk
      clear hcs
      have hki : (k : Int) < (s.gaps.length : Int) := by omega
      obtain ⟨x, hx⟩ : ∃ x, x = s.gaps[k] := ⟨_, rfl⟩
      rw [← hx] at d0 d1
      have HX := Lib.hid hx
      clear hx
      obtain ⟨x1, x2⟩ := x
      dsimp only at d0 d1
      have HLE := Lib.hid (fun i (h : i < s.gaps.length) (hki : k ≤ i) => show x1 ≤ s.gaps[i].1 by have := HMO.out k i hki h; rw [← HX.out] at this; exact this)
      go_wp2_with fail
      clear d0 d1
      have hbw := sgBel wr (.cells #[.int .i64 x1, .int .i64 x2] 51)
      obtain ⟨XB, hXB⟩ : ∃ XB, XB = wr.heap.size := ⟨_, rfl⟩
      have hx0 := (show At XB 0 (.int .i64 x1) (wr.alloc (.cells #[.int .i64 x1, .int .i64 x2] 51)) by rw [hXB]; exact At.new _ rfl rfl)
      have hx1 := (show At XB 1 (.int .i64 x2) (wr.alloc (.cells #[.int .i64 x1, .int .i64 x2] 51)) by rw [hXB]; exact At.new _ rfl rfl)
      have HQ := Lib.hid (show Gq n₀ w.heap.size C M B s m sa sc (some ⟨b0, o0, none⟩) cl J k XB x1 x2 sp.length (.slice a sp.length c) (.int .i64 (countF sp)) (wr.alloc (.cells #[.int .i64 x1, .int .i64 x2] 51)) from ⟨sp, a, c, rfl, rfl, rfl, HLS.out.below (hbw.mono HI.out.g.hz), hcap, ⟨e0, HCA.out⟩, HUP.out, HI.out.below hbw (fun b h => ((HJ.out k _ _ HJK.out hbw).2 b h).1), (HJ.out k _ _ HJK.out hbw).1, Nat.le_trans HSZ.out hbw.size, hx0, hx1, by rw [hXB]; exact HSZ.out⟩)
      rw [← hXB]
      clear hbw hXB hx0 hx1 HLS HCA HUP HI HJK HSZ
      generalize wr.alloc (.cells #[.int .i64 x1, .int .i64 x2] 51) = w1 at HQ ⊢
      go_loopg [4, 5] sp.length (fun g spv smv w2 => Gq n₀ w.heap.size C M B s m sa sc (some ⟨b0, o0, none⟩) cl J k XB x1 x2 g spv smv w2)
      case atStart => exact HQ.out
      case round =>
        clear HQ hcap
        obtain ⟨sp, a, c, rfl, rfl, rfl, hls, hcap, ⟨e0, hca⟩, hup, hI, hJk, hsz, hx0, hx1, hxz⟩ := hrel
        have HI := Lib.hid hI
        have HUP := Lib.hid hup
        have HCA := Lib.hid hca
        have HLS := Lib.hid hls
        have HJK := Lib.hid hJk
        have HSZ := Lib.hid hsz
        have HX0 := Lib.hid hx0
        have HX1 := Lib.hid hx1
        have HXZ := Lib.hid hxz
        have hcap := hcap
        clear hI hup hca hls hJk hsz hx0 hx1 hxz
        rcases sp with _ | ⟨y, t⟩
        · obtain ⟨v0, q0⟩ := HX0.out
          obtain ⟨v1, q1⟩ := HX1.out
          have hd0 : decide ((0 : Int) < 0) = false := by decide
          go_wp2_with fail
          go_quiet (fail)
          clear v0 q0 v1 q1
          have hbn := nqBel wr nq
          replace HI := Lib.hid (HI.out.below hbn (fun b h => ((HJ.out k _ _ HJK.out hbn).2 b h).1))
          replace HJK := Lib.hid (HJ.out k _ _ HJK.out hbn).1
          replace HLS := Lib.hid (HLS.out.below (hbn.mono (by have := HI.out.g.hz; simpa using this)))
          replace HX0 := Lib.hid (HX0.out.below hbn HX0.out.lt)
          replace HX1 := Lib.hid (HX1.out.below hbn HX1.out.lt)
          replace HSZ := Lib.hid (Nat.le_trans HSZ.out hbn.size)
          clear hbn
          generalize wr.drewN nq = w3 at HI HJK HLS HX0 HX1 HSZ ⊢
          obtain ⟨v0, q0⟩ := HX0.out
          obtain ⟨v1, q1⟩ := HX1.out
          have hg9 := HI.out.g.below (sgBel w3 (.cells #[.int .i64 x1, .int .i64 x2] 51))
          have cM := hg9.cM
          have cC := hg9.cC
          have c2 := hg9.c2
          clear hg9
          obtain ⟨v2, q2⟩ := HX0.out.alloc (.cells #[.int .i64 x1, .int .i64 x2] 51)
          obtain ⟨v3, q3⟩ := HX1.out.alloc (.cells #[.int .i64 x1, .int .i64 x2] 51)
          have HUPK := Lib.hid (show upL x1 s.sk = [] by have h := HUP.out k hk (Nat.le_refl _); rw [← HX.out] at h; exact h.symm.trans (by rfl))
          have hqt : wrap64 ((countF []).tdiv 3) = countF [] / 3 := by have h := countF_nonneg HCA.out; rw [Int.tdiv_eq_ediv_of_nonneg h.1]; unfold wrap64; omega
          by_cases hc1 : countF [] / 3 < m
          · have hc2 : (0 : Int) < 3 := by decide
            go_upto_region 9 with fail
            have hK9 := (show (fun W : World => W.cell? ⟨XB, 0, none⟩ = some (.int .i64 x1) ∧ W.cell? ⟨XB, 1, none⟩ = some (.int .i64 x2) ∧ W.cell? ⟨C, 0, none⟩ = some (.pointer (some ⟨B, 0, none⟩)) ∧ W.cell? ⟨B, 2, none⟩ = some (.int .i64 s.mark)) (w3.alloc (.cells #[.int .i64 x1, .int .i64 x2] 51)) from ⟨v2, v3, cC, c2⟩)
            have hM9 := HI.out.g.below (sgBel w3 (.cells #[.int .i64 x1, .int .i64 (max x1 (min x2 s.mark))] 51))
            have hK9b := (show (fun W : World => W.cell? ⟨XB, 0, none⟩ = some (.int .i64 x1) ∧ W.cell? ⟨XB, 1, none⟩ = some (.int .i64 x2) ∧ W.cell? ⟨C, 0, none⟩ = some (.pointer (some ⟨B, 0, none⟩)) ∧ W.cell? ⟨B, 2, none⟩ = some (.int .i64 s.mark)) (w3.alloc (.cells #[.int .i64 x1, .int .i64 (max x1 (min x2 s.mark))] 51)) from ⟨(HX0.out.alloc (.cells #[.int .i64 x1, .int .i64 (max x1 (min x2 s.mark))] 51)).1, (HX1.out.alloc (.cells #[.int .i64 x1, .int .i64 (max x1 (min x2 s.mark))] 51)).1, hM9.cC, hM9.c2⟩)
            clear hM9
            refine wp_region_held_drew (S := (fun W : World => W.cell? ⟨XB, 0, none⟩ = some (.int .i64 x1) ∧ W.cell? ⟨XB, 1, none⟩ = some (.int .i64 x2) ∧ W.cell? ⟨C, 0, none⟩ = some (.pointer (some ⟨B, 0, none⟩)) ∧ W.cell? ⟨B, 2, none⟩ = some (.int .i64 s.mark))) (by kernel_rfl) (hK9) (fun hHeld => ?_)
            refine wpAnyH_take (i := 0) (v := ?_) (by simp only [List.getElem?_toArray, List.getElem?_cons_zero]; rfl) (by kernel_rfl) (by kernel_rfl) (by kernel_rfl) (by exact fun _ _ _ h => h) (Or.inl ⟨by rfl, ?_⟩) (by assumption) ?_
            rotate_left 1
            · intro w hSw; (obtain ⟨z0, z1, z2, z3⟩ := hSw); go_simp; (try with_reducible rfl)
            (try simp only [Act.put, List.setIfInBounds_toArray, List.set_cons_zero, List.set_cons_succ])
            refine wpAnyH_take (i := 1) (v := ?_) (by simp only [List.getElem?_toArray, List.getElem?_cons_succ, List.getElem?_cons_zero]; rfl) (by kernel_rfl) (by kernel_rfl) (by kernel_rfl) (by exact fun _ _ _ h => h) (Or.inl ⟨by rfl, ?_⟩) (by assumption) ?_
            rotate_left 1
            · intro w hSw; (obtain ⟨z0, z1, z2, z3⟩ := hSw); go_simp; (try with_reducible rfl)
            (try simp only [Act.put, List.setIfInBounds_toArray, List.set_cons_zero, List.set_cons_succ])
            refine wpAnyH_take (i := 2) (v := ?_) (by simp only [List.getElem?_toArray, List.getElem?_cons_succ, List.getElem?_cons_zero]; rfl) (by kernel_rfl) (by kernel_rfl) (by kernel_rfl) (by exact fun _ _ _ h => h) (Or.inl ⟨by rfl, ?_⟩) (by assumption) ?_
            rotate_left 1
            · intro w hSw; (obtain ⟨z0, z1, z2, z3⟩ := hSw); go_simp; (try with_reducible rfl)
            (try simp only [Act.put, List.setIfInBounds_toArray, List.set_cons_zero, List.set_cons_succ])
            refine wpAnyH_take (i := 3) (v := ?_) (by simp only [List.getElem?_toArray, List.getElem?_cons_succ, List.getElem?_cons_zero]; rfl) (by kernel_rfl) (by kernel_rfl) (by kernel_rfl) (by exact fun _ _ _ h => h) (Or.inl ⟨by rfl, ?_⟩) (by assumption) ?_
            rotate_left 1
            · intro w hSw; (obtain ⟨z0, z1, z2, z3⟩ := hSw); go_simp; (try with_reducible rfl)
            (try simp only [Act.put, List.setIfInBounds_toArray, List.set_cons_zero, List.set_cons_succ])
            refine wpAnyH_take (i := 4) (v := ?_) (by simp only [List.getElem?_toArray, List.getElem?_cons_succ, List.getElem?_cons_zero]; rfl) (by kernel_rfl) (by kernel_rfl) (by kernel_rfl) (by exact fun _ _ _ h => h) (Or.inl ⟨by rfl, ?_⟩) (by assumption) ?_
            rotate_left 1
            · intro w hSw; (obtain ⟨z0, z1, z2, z3⟩ := hSw); go_simp; (try with_reducible rfl)
            (try simp only [Act.put, List.setIfInBounds_toArray, List.set_cons_zero, List.set_cons_succ])
            refine wpAnyH_take (i := 5) (v := ?_) (by simp only [List.getElem?_toArray, List.getElem?_cons_succ, List.getElem?_cons_zero]; rfl) (by kernel_rfl) (by kernel_rfl) (by kernel_rfl) (by exact fun _ _ _ h => h) (Or.inl ⟨by rfl, ?_⟩) (by assumption) ?_
            rotate_left 1
            · intro w hSw; (obtain ⟨z0, z1, z2, z3⟩ := hSw); go_simp; (try with_reducible rfl)
            (try simp only [Act.put, List.setIfInBounds_toArray, List.set_cons_zero, List.set_cons_succ])
            refine wpAnyH_take (i := 6) (v := ?_) (by simp only [List.getElem?_toArray, List.getElem?_cons_succ, List.getElem?_cons_zero]; rfl) (by kernel_rfl) (by kernel_rfl) (by kernel_rfl) (by exact fun _ _ _ h => h) (Or.inl ⟨by rfl, ?_⟩) (by assumption) ?_
            rotate_left 1
            · intro w hSw; (obtain ⟨z0, z1, z2, z3⟩ := hSw); go_simp; (try with_reducible rfl)
            (try simp only [Act.put, List.setIfInBounds_toArray, List.set_cons_zero, List.set_cons_succ])
            refine wpAnyH_take (i := 7) (v := ?_) (by simp only [List.getElem?_toArray, List.getElem?_cons_succ, List.getElem?_cons_zero]; rfl) (by kernel_rfl) (by kernel_rfl) (by kernel_rfl) (by exact fun _ _ _ h => h) (Or.inl ⟨by rfl, ?_⟩) (by assumption) ?_
            rotate_left 1
            · intro w hSw; (obtain ⟨z0, z1, z2, z3⟩ := hSw); go_simp; (try with_reducible rfl)
            (try simp only [Act.put, List.setIfInBounds_toArray, List.set_cons_zero, List.set_cons_succ])
            refine wpAnyH_take (i := 8) (v := ?_) (by simp only [List.getElem?_toArray, List.getElem?_cons_succ, List.getElem?_cons_zero]; rfl) (by kernel_rfl) (by kernel_rfl) (by kernel_rfl) (by exact fun _ _ _ h => h) (Or.inl ⟨by rfl, ?_⟩) (by assumption) ?_
            rotate_left 1
            · intro w hSw; (obtain ⟨z0, z1, z2, z3⟩ := hSw); go_simp; (try with_reducible rfl)
            (try simp only [Act.put, List.setIfInBounds_toArray, List.set_cons_zero, List.set_cons_succ])
            refine wpAnyH_take (i := 9) (v := ?_) (by simp only [List.getElem?_toArray, List.getElem?_cons_succ, List.getElem?_cons_zero]; rfl) (by kernel_rfl) (by kernel_rfl) (by kernel_rfl) (by exact fun _ _ _ h => h) (Or.inl ⟨by rfl, ?_⟩) (by assumption) ?_
            rotate_left 1
            · intro w hSw; (obtain ⟨z0, z1, z2, z3⟩ := hSw); go_simp; (try with_reducible rfl)
            (try simp only [Act.put, List.setIfInBounds_toArray, List.set_cons_zero, List.set_cons_succ])
            refine wpAnyH_take (i := 10) (v := ?_) (by simp only [List.getElem?_toArray, List.getElem?_cons_succ, List.getElem?_cons_zero]; rfl) (by kernel_rfl) (by kernel_rfl) (by kernel_rfl) (by exact fun _ _ _ h => h) (Or.inl ⟨by rfl, ?_⟩) (by assumption) ?_
            rotate_left 1
            · intro w hSw; (obtain ⟨z0, z1, z2, z3⟩ := hSw); go_simp; (try with_reducible rfl)
            (try simp only [Act.put, List.setIfInBounds_toArray, List.set_cons_zero, List.set_cons_succ])
            refine wpAnyH_ready (rs := [11]) (by kernel_rfl) (by simp) ?_
            refine AllReadyH.cons (by simp only [List.getElem?_toArray, List.getElem?_cons_succ, List.getElem?_cons_zero]; rfl) (fun Kq hKq => ?_) AllReadyH.nil
            go_simp
            refine hKq.out _ _ (hK9b) (fun hHeld2 => ?_)
            clear hKq Kq hHeld
            (try simp only [Act.put, List.setIfInBounds_toArray, List.set_cons_zero, List.set_cons_succ])
            have hHeld := hHeld2
            clear hHeld2
            refine wpAnyH_done (by kernel_rfl) ?_ _
            clear hHeld hK9 hK9b cC cM c2 v2 v3 q2 q3
            go_upto_region 10 with fail
            have hb5 := (sgBel w3 (.cells #[.int .i64 x1, .int .i64 (max x1 (min x2 s.mark))] 51)).drew
            have HLO := Lib.hid (show s.lostOf m (x1, x2) = (x1, (max x1 (min x2 s.mark))) by unfold Sc.lostOf; rw [if_pos]; dsimp only; rw [HUPK.out]; exact ⟨hc1, by first | exact hc2 | (simp; omega) | simp⟩)
            have hJ5 := HJ.out k _ _ HJK.out hb5
            have HI5 := Lib.hid (HI.out.below hb5 (fun b h => (hJ5.2 b h).1))
            have hy0 := HY.out k hk _ hJ5.1
            rw [← HX.out, HLO.out] at hy0
            dsimp only at hy0
            have d0 := (show At w3.heap.size 0 (.int .i64 x1) ((w3.alloc (.cells #[.int .i64 x1, .int .i64 (max x1 (min x2 s.mark))] 51)).drew) from (At.new _ rfl rfl : At w3.heap.size 0 (.int .i64 x1) (w3.alloc (.cells #[.int .i64 x1, .int .i64 (max x1 (min x2 s.mark))] 51)))).1
            have d1 := (show At w3.heap.size 1 (.int .i64 (max x1 (min x2 s.mark))) ((w3.alloc (.cells #[.int .i64 x1, .int .i64 (max x1 (min x2 s.mark))] 51)).drew) from (At.new _ rfl rfl : At w3.heap.size 1 (.int .i64 (max x1 (min x2 s.mark))) (w3.alloc (.cells #[.int .i64 x1, .int .i64 (max x1 (min x2 s.mark))] 51)))).1
            have v4 := HX0.out.below hb5 HX0.out.lt
            have v5 := HX1.out.below hb5 HX1.out.lt
            obtain ⟨v4, -⟩ := v4
            obtain ⟨v5, -⟩ := v5
            have hsz5 := Nat.le_trans HSZ.out hb5.size
            have HS5 := Lib.hid (HLS.out.below (hb5.mono HI.out.g.hz))
            generalize ((w3.alloc (.cells #[.int .i64 x1, .int .i64 (max x1 (min x2 s.mark))] 51)).drew) = w5 at hy0 d0 d1 HI5 v4 v5 hsz5 HS5 ⊢
            obtain ⟨fn, tmps, assign, body, hy, hR⟩ := hy0
            clear hb5 hJ5
            refine (wpIn_wide (n := n)).1 ?_
            gi_wp2
            refine hR.mono ?_
            rintro e w6 (⟨rfl, hJ6, hb6, hcl6⟩ | ⟨rfl, hJx⟩)
            · have hI6 := HI5.out.next hb6 hsz5 hcl6 (fun ad e => by obtain ⟨b8, o8, e8, hb8, -⟩ := HI5.out.gl.cells (by omega); rw [e8] at e; cases e; exact hb8) (HJC.out _ _ hJ6)
              have HS7 := Lib.hid (HS5.out.below hb6)
              have HSZ6 := Lib.hid (Nat.le_trans hsz5 hb6.size)
              have HI6 := Lib.hid hI6
              have HJ6 := Lib.hid hJ6
              clear hy hR d0 d1 v4 v5 hb6 hcl6 hI6 hJ6
              gi_wp2
              go_wp2_with fail
              go_roundg (s.gaps.length - k - 1)
              case measure => omega
              case rel => exact ⟨k + 1, [], a, c, by have hgl := HGL.out; have e : wrap64 ((k : Int) + 1) = ((k + 1 : Nat) : Int) := (by unfold wrap64; omega); rw [e], by omega, by first | rfl | simp, rfl, HS7.out, by first | exact hcap | simpa using hcap, ⟨_, HCA.out⟩, fun i h hki => HUP.out i h (by omega), HI6.out, HJ6.out, HSZ6.out⟩
            · clear hy hR d0 d1 v4 v5
              gi_wp2
              go_wp2_with fail
              refine bodyPost_ret (results_none rfl _ _ _) rfl ?_
              exact ⟨⟨_, rfl⟩, .inr ⟨k, hk, hJx⟩⟩
          · go_upto_region 10 with fail
            have hb5 := sgBel w3 (.cells #[.int .i64 x1, .int .i64 x2] 51)
            have HLO := Lib.hid (show s.lostOf m (x1, x2) = (x1, x2) by unfold Sc.lostOf; rw [if_neg]; dsimp only; rw [HUPK.out]; rintro ⟨h1, h2⟩; first | exact hc1 h1 | exact hc2 (by simpa using h2) | (simp at h2; omega))
            have hJ5 := HJ.out k _ _ HJK.out hb5
            have HI5 := Lib.hid (HI.out.below hb5 (fun b h => (hJ5.2 b h).1))
            have hy0 := HY.out k hk _ hJ5.1
            rw [← HX.out, HLO.out] at hy0
            dsimp only at hy0
            have d0 := (show At w3.heap.size 0 (.int .i64 x1) (w3.alloc (.cells #[.int .i64 x1, .int .i64 x2] 51)) from At.new _ rfl rfl).1
            have d1 := (show At w3.heap.size 1 (.int .i64 x2) (w3.alloc (.cells #[.int .i64 x1, .int .i64 x2] 51)) from At.new _ rfl rfl).1
            have v4 := HX0.out.below hb5 HX0.out.lt
            have v5 := HX1.out.below hb5 HX1.out.lt
            obtain ⟨v4, -⟩ := v4
            obtain ⟨v5, -⟩ := v5
            have hsz5 := Nat.le_trans HSZ.out hb5.size
            have HS5 := Lib.hid (HLS.out.below (hb5.mono HI.out.g.hz))
            generalize (w3.alloc (.cells #[.int .i64 x1, .int .i64 x2] 51)) = w5 at hy0 d0 d1 HI5 v4 v5 hsz5 HS5 ⊢
            obtain ⟨fn, tmps, assign, body, hy, hR⟩ := hy0
            clear hb5 hJ5
            refine (wpIn_wide (n := n)).1 ?_
            gi_wp2
            refine hR.mono ?_
            rintro e w6 (⟨rfl, hJ6, hb6, hcl6⟩ | ⟨rfl, hJx⟩)
            · have hI6 := HI5.out.next hb6 hsz5 hcl6 (fun ad e => by obtain ⟨b8, o8, e8, hb8, -⟩ := HI5.out.gl.cells (by omega); rw [e8] at e; cases e; exact hb8) (HJC.out _ _ hJ6)
              have HS7 := Lib.hid (HS5.out.below hb6)
              have HSZ6 := Lib.hid (Nat.le_trans hsz5 hb6.size)
              have HI6 := Lib.hid hI6
              have HJ6 := Lib.hid hJ6
              clear hy hR d0 d1 v4 v5 hb6 hcl6 hI6 hJ6
              gi_wp2
              go_wp2_with fail
              go_roundg (s.gaps.length - k - 1)
              case measure => omega
              case rel => exact ⟨k + 1, [], a, c, by have hgl := HGL.out; have e : wrap64 ((k : Int) + 1) = ((k + 1 : Nat) : Int) := (by unfold wrap64; omega); rw [e], by omega, by first | rfl | simp, rfl, HS7.out, by first | exact hcap | simpa using hcap, ⟨_, HCA.out⟩, fun i h hki => HUP.out i h (by omega), HI6.out, HJ6.out, HSZ6.out⟩
            · clear hy hR d0 d1 v4 v5
              gi_wp2
              go_wp2_with fail
              refine bodyPost_ret (results_none rfl _ _ _) rfl ?_
              exact ⟨⟨_, rfl⟩, .inr ⟨k, hk, hJx⟩⟩
        · obtain ⟨b, off, rfl, hb, hcs⟩ := HLS.out.cells (by simp)
          obtain ⟨d0, d1⟩ := hcs 0 (by simp)
          clear hcs
          obtain ⟨y1, y2⟩ := y
          simp only [List.getElem_cons_zero, Nat.zero_mul, Nat.add_zero] at d0 d1
          obtain ⟨v0, q0⟩ := HX0.out
          obtain ⟨v1, q1⟩ := HX1.out
          by_cases hle : y2 ≤ x1
          · have HWP := Lib.hid (show wrap64 (countF ((y1, y2) :: t) - wrap64 (y2 - y1)) = countF t by have h1 := countF_nonneg HCA.out; have h2 := canonF_cons.1 HCA.out; have h3 := countF_nonneg h2.2; have h4 := h2.1; dsimp only at h4; rw [show countF ((y1, y2) :: t) = (y2 - y1) + countF t from rfl] at h1 ⊢; unfold wrap64; omega)
            go_wp2_with fail
            go_quiet (fail)
            clear v0 q0 v1 q1
            have D0 := Lib.hid d0
            have D1 := Lib.hid d1
            clear d0 d1
            have hbn := nqBel wr nq
            replace HI := Lib.hid (HI.out.below hbn (fun b h => ((HJ.out k _ _ HJK.out hbn).2 b h).1))
            replace HJK := Lib.hid (HJ.out k _ _ HJK.out hbn).1
            replace HLS := Lib.hid (HLS.out.below (hbn.mono (by have := HI.out.g.hz; simpa using this)))
            replace HX0 := Lib.hid (HX0.out.below hbn HX0.out.lt)
            replace HX1 := Lib.hid (HX1.out.below hbn HX1.out.lt)
            replace HSZ := Lib.hid (Nat.le_trans HSZ.out hbn.size)
            clear hbn
            generalize wr.drewN nq = w3 at HI HJK HLS HX0 HX1 HSZ ⊢
            obtain ⟨v0, q0⟩ := HX0.out
            obtain ⟨v1, q1⟩ := HX1.out
            obtain ⟨b9, o9, h9, hb, hcs⟩ := HLS.out.cells (by simp)
            cases h9
            obtain ⟨d0, d1⟩ := hcs 0 (by simp)
            clear hcs
            simp only [List.getElem_cons_zero, Nat.zero_mul, Nat.add_zero] at d0 d1
            go_wp2_with fail
            go_quiet (fail)
            go_wp2_with fail
            · clear v0 q0 v1 q1 d0 d1
              have hbn := nqBel w3 nq
              replace HI := Lib.hid (HI.out.below hbn (fun b h => ((HJ.out k _ _ HJK.out hbn).2 b h).1))
              replace HJK := Lib.hid (HJ.out k _ _ HJK.out hbn).1
              replace HLS := Lib.hid (HLS.out.below (hbn.mono (by have := HI.out.g.hz; simpa using this)))
              replace HX0 := Lib.hid (HX0.out.below hbn HX0.out.lt)
              replace HX1 := Lib.hid (HX1.out.below hbn HX1.out.lt)
              replace HSZ := Lib.hid (Nat.le_trans HSZ.out hbn.size)
              clear hbn
              generalize w3.drewN nq = w4 at HI HJK HLS HX0 HX1 HSZ ⊢
              rw [HWP.out]
              go_roundg t.length
              case measure => simp
              case rel => exact ⟨t, some ⟨b, off, none⟩, 0, rfl, rfl, rfl, ⟨by have := (spat_tail HLS.out).small; exact this, fun hl => by have := hcap; rw [List.length_cons] at this; omega⟩, by have := hcap; rw [List.length_cons] at this; omega, ⟨y2, (canonF_cons.1 HCA.out).2⟩, fun i h hki => by rw [← HUP.out i h hki, upL_cons, if_pos (Int.le_trans hle (HLE.out i h hki))], HI.out, HJK.out, HSZ.out, HX0.out, HX1.out, HXZ.out⟩
            · clear v0 q0 v1 q1 d0 d1
              have hbn := nqBel w3 nq
              replace HI := Lib.hid (HI.out.below hbn (fun b h => ((HJ.out k _ _ HJK.out hbn).2 b h).1))
              replace HJK := Lib.hid (HJ.out k _ _ HJK.out hbn).1
              replace HLS := Lib.hid (HLS.out.below (hbn.mono (by have := HI.out.g.hz; simpa using this)))
              replace HX0 := Lib.hid (HX0.out.below hbn HX0.out.lt)
              replace HX1 := Lib.hid (HX1.out.below hbn HX1.out.lt)
              replace HSZ := Lib.hid (Nat.le_trans HSZ.out hbn.size)
              clear hbn
              generalize w3.drewN nq = w4 at HI HJK HLS HX0 HX1 HSZ ⊢
              rw [HWP.out]
              go_roundg t.length
              case measure => simp
              case rel => exact ⟨t, some ⟨b, off + 2, none⟩, c - 1, rfl, rfl, rfl, spat_tail HLS.out, by have := hcap; rw [List.length_cons] at this; omega, ⟨y2, (canonF_cons.1 HCA.out).2⟩, fun i h hki => by rw [← HUP.out i h hki, upL_cons, if_pos (Int.le_trans hle (HLE.out i h hki))], HI.out, HJK.out, HSZ.out, HX0.out, HX1.out, HXZ.out⟩
          · have hd : decide (y2 ≤ x1) = false := by rw [decide_eq_false_iff_not]; exact hle
            go_wp2_with fail
            go_quiet (fail)
            clear v0 q0 v1 q1 d0 d1
            have hbn := nqBel wr nq
            replace HI := Lib.hid (HI.out.below hbn (fun b h => ((HJ.out k _ _ HJK.out hbn).2 b h).1))
            replace HJK := Lib.hid (HJ.out k _ _ HJK.out hbn).1
            replace HLS := Lib.hid (HLS.out.below (hbn.mono (by have := HI.out.g.hz; simpa using this)))
            replace HX0 := Lib.hid (HX0.out.below hbn HX0.out.lt)
            replace HX1 := Lib.hid (HX1.out.below hbn HX1.out.lt)
            replace HSZ := Lib.hid (Nat.le_trans HSZ.out hbn.size)
            clear hbn
            generalize wr.drewN nq = w3 at HI HJK HLS HX0 HX1 HSZ ⊢
            obtain ⟨v0, q0⟩ := HX0.out
            obtain ⟨v1, q1⟩ := HX1.out
            have hg9 := HI.out.g.below (sgBel w3 (.cells #[.int .i64 x1, .int .i64 x2] 51))
            have cM := hg9.cM
            have cC := hg9.cC
            have c2 := hg9.c2
            clear hg9
            obtain ⟨v2, q2⟩ := HX0.out.alloc (.cells #[.int .i64 x1, .int .i64 x2] 51)
            obtain ⟨v3, q3⟩ := HX1.out.alloc (.cells #[.int .i64 x1, .int .i64 x2] 51)
            have HUPK := Lib.hid (show upL x1 s.sk = ((y1, y2) :: t) by have h := HUP.out k hk (Nat.le_refl _); rw [← HX.out] at h; exact h.symm.trans (by rw [upL_cons, if_neg (by omega)]))
            have hqt : wrap64 ((countF ((y1, y2) :: t)).tdiv 3) = countF ((y1, y2) :: t) / 3 := by have h := countF_nonneg HCA.out; rw [Int.tdiv_eq_ediv_of_nonneg h.1]; unfold wrap64; omega
            by_cases hc1 : countF ((y1, y2) :: t) / 3 < m
            · by_cases hc2 : ((t.length : Int) + 1) < 3
              · go_upto_region 9 with fail
                have hK9 := (show (fun W : World => W.cell? ⟨XB, 0, none⟩ = some (.int .i64 x1) ∧ W.cell? ⟨XB, 1, none⟩ = some (.int .i64 x2) ∧ W.cell? ⟨C, 0, none⟩ = some (.pointer (some ⟨B, 0, none⟩)) ∧ W.cell? ⟨B, 2, none⟩ = some (.int .i64 s.mark)) (w3.alloc (.cells #[.int .i64 x1, .int .i64 x2] 51)) from ⟨v2, v3, cC, c2⟩)
                have hM9 := HI.out.g.below (sgBel w3 (.cells #[.int .i64 x1, .int .i64 (max x1 (min x2 s.mark))] 51))
                have hK9b := (show (fun W : World => W.cell? ⟨XB, 0, none⟩ = some (.int .i64 x1) ∧ W.cell? ⟨XB, 1, none⟩ = some (.int .i64 x2) ∧ W.cell? ⟨C, 0, none⟩ = some (.pointer (some ⟨B, 0, none⟩)) ∧ W.cell? ⟨B, 2, none⟩ = some (.int .i64 s.mark)) (w3.alloc (.cells #[.int .i64 x1, .int .i64 (max x1 (min x2 s.mark))] 51)) from ⟨(HX0.out.alloc (.cells #[.int .i64 x1, .int .i64 (max x1 (min x2 s.mark))] 51)).1, (HX1.out.alloc (.cells #[.int .i64 x1, .int .i64 (max x1 (min x2 s.mark))] 51)).1, hM9.cC, hM9.c2⟩)
                clear hM9
                refine wp_region_held_drew (S := (fun W : World => W.cell? ⟨XB, 0, none⟩ = some (.int .i64 x1) ∧ W.cell? ⟨XB, 1, none⟩ = some (.int .i64 x2) ∧ W.cell? ⟨C, 0, none⟩ = some (.pointer (some ⟨B, 0, none⟩)) ∧ W.cell? ⟨B, 2, none⟩ = some (.int .i64 s.mark))) (by kernel_rfl) (hK9) (fun hHeld => ?_)
                refine wpAnyH_take (i := 0) (v := ?_) (by simp only [List.getElem?_toArray, List.getElem?_cons_zero]; rfl) (by kernel_rfl) (by kernel_rfl) (by kernel_rfl) (by exact fun _ _ _ h => h) (Or.inl ⟨by rfl, ?_⟩) (by assumption) ?_
                rotate_left 1
                · intro w hSw; (obtain ⟨z0, z1, z2, z3⟩ := hSw); go_simp; (try with_reducible rfl)
                (try simp only [Act.put, List.setIfInBounds_toArray, List.set_cons_zero, List.set_cons_succ])
                refine wpAnyH_take (i := 1) (v := ?_) (by simp only [List.getElem?_toArray, List.getElem?_cons_succ, List.getElem?_cons_zero]; rfl) (by kernel_rfl) (by kernel_rfl) (by kernel_rfl) (by exact fun _ _ _ h => h) (Or.inl ⟨by rfl, ?_⟩) (by assumption) ?_
                rotate_left 1
                · intro w hSw; (obtain ⟨z0, z1, z2, z3⟩ := hSw); go_simp; (try with_reducible rfl)
                (try simp only [Act.put, List.setIfInBounds_toArray, List.set_cons_zero, List.set_cons_succ])
                refine wpAnyH_take (i := 2) (v := ?_) (by simp only [List.getElem?_toArray, List.getElem?_cons_succ, List.getElem?_cons_zero]; rfl) (by kernel_rfl) (by kernel_rfl) (by kernel_rfl) (by exact fun _ _ _ h => h) (Or.inl ⟨by rfl, ?_⟩) (by assumption) ?_
                rotate_left 1
                · intro w hSw; (obtain ⟨z0, z1, z2, z3⟩ := hSw); go_simp; (try with_reducible rfl)
                (try simp only [Act.put, List.setIfInBounds_toArray, List.set_cons_zero, List.set_cons_succ])
                refine wpAnyH_take (i := 3) (v := ?_) (by simp only [List.getElem?_toArray, List.getElem?_cons_succ, List.getElem?_cons_zero]; rfl) (by kernel_rfl) (by kernel_rfl) (by kernel_rfl) (by exact fun _ _ _ h => h) (Or.inl ⟨by rfl, ?_⟩) (by assumption) ?_
                rotate_left 1
                · intro w hSw; (obtain ⟨z0, z1, z2, z3⟩ := hSw); go_simp; (try with_reducible rfl)
                (try simp only [Act.put, List.setIfInBounds_toArray, List.set_cons_zero, List.set_cons_succ])
                refine wpAnyH_take (i := 4) (v := ?_) (by simp only [List.getElem?_toArray, List.getElem?_cons_succ, List.getElem?_cons_zero]; rfl) (by kernel_rfl) (by kernel_rfl) (by kernel_rfl) (by exact fun _ _ _ h => h) (Or.inl ⟨by rfl, ?_⟩) (by assumption) ?_
                rotate_left 1
                · intro w hSw; (obtain ⟨z0, z1, z2, z3⟩ := hSw); go_simp; (try with_reducible rfl)
                (try simp only [Act.put, List.setIfInBounds_toArray, List.set_cons_zero, List.set_cons_succ])
                refine wpAnyH_take (i := 5) (v := ?_) (by simp only [List.getElem?_toArray, List.getElem?_cons_succ, List.getElem?_cons_zero]; rfl) (by kernel_rfl) (by kernel_rfl) (by kernel_rfl) (by exact fun _ _ _ h => h) (Or.inl ⟨by rfl, ?_⟩) (by assumption) ?_
                rotate_left 1
                · intro w hSw; (obtain ⟨z0, z1, z2, z3⟩ := hSw); go_simp; (try with_reducible rfl)
                (try simp only [Act.put, List.setIfInBounds_toArray, List.set_cons_zero, List.set_cons_succ])
                refine wpAnyH_take (i := 6) (v := ?_) (by simp only [List.getElem?_toArray, List.getElem?_cons_succ, List.getElem?_cons_zero]; rfl) (by kernel_rfl) (by kernel_rfl) (by kernel_rfl) (by exact fun _ _ _ h => h) (Or.inl ⟨by rfl, ?_⟩) (by assumption) ?_
                rotate_left 1
                · intro w hSw; (obtain ⟨z0, z1, z2, z3⟩ := hSw); go_simp; (try with_reducible rfl)
                (try simp only [Act.put, List.setIfInBounds_toArray, List.set_cons_zero, List.set_cons_succ])
                refine wpAnyH_take (i := 7) (v := ?_) (by simp only [List.getElem?_toArray, List.getElem?_cons_succ, List.getElem?_cons_zero]; rfl) (by kernel_rfl) (by kernel_rfl) (by kernel_rfl) (by exact fun _ _ _ h => h) (Or.inl ⟨by rfl, ?_⟩) (by assumption) ?_
                rotate_left 1
                · intro w hSw; (obtain ⟨z0, z1, z2, z3⟩ := hSw); go_simp; (try with_reducible rfl)
                (try simp only [Act.put, List.setIfInBounds_toArray, List.set_cons_zero, List.set_cons_succ])
                refine wpAnyH_take (i := 8) (v := ?_) (by simp only [List.getElem?_toArray, List.getElem?_cons_succ, List.getElem?_cons_zero]; rfl) (by kernel_rfl) (by kernel_rfl) (by kernel_rfl) (by exact fun _ _ _ h => h) (Or.inl ⟨by rfl, ?_⟩) (by assumption) ?_
                rotate_left 1
                · intro w hSw; (obtain ⟨z0, z1, z2, z3⟩ := hSw); go_simp; (try with_reducible rfl)
                (try simp only [Act.put, List.setIfInBounds_toArray, List.set_cons_zero, List.set_cons_succ])
                refine wpAnyH_take (i := 9) (v := ?_) (by simp only [List.getElem?_toArray, List.getElem?_cons_succ, List.getElem?_cons_zero]; rfl) (by kernel_rfl) (by kernel_rfl) (by kernel_rfl) (by exact fun _ _ _ h => h) (Or.inl ⟨by rfl, ?_⟩) (by assumption) ?_
                rotate_left 1
                · intro w hSw; (obtain ⟨z0, z1, z2, z3⟩ := hSw); go_simp; (try with_reducible rfl)
                (try simp only [Act.put, List.setIfInBounds_toArray, List.set_cons_zero, List.set_cons_succ])
                refine wpAnyH_take (i := 10) (v := ?_) (by simp only [List.getElem?_toArray, List.getElem?_cons_succ, List.getElem?_cons_zero]; rfl) (by kernel_rfl) (by kernel_rfl) (by kernel_rfl) (by exact fun _ _ _ h => h) (Or.inl ⟨by rfl, ?_⟩) (by assumption) ?_
                rotate_left 1
                · intro w hSw; (obtain ⟨z0, z1, z2, z3⟩ := hSw); go_simp; (try with_reducible rfl)
                (try simp only [Act.put, List.setIfInBounds_toArray, List.set_cons_zero, List.set_cons_succ])
                refine wpAnyH_ready (rs := [11]) (by kernel_rfl) (by simp) ?_
                refine AllReadyH.cons (by simp only [List.getElem?_toArray, List.getElem?_cons_succ, List.getElem?_cons_zero]; rfl) (fun Kq hKq => ?_) AllReadyH.nil
                go_simp
                refine hKq.out _ _ (hK9b) (fun hHeld2 => ?_)
                clear hKq Kq hHeld
                (try simp only [Act.put, List.setIfInBounds_toArray, List.set_cons_zero, List.set_cons_succ])
                have hHeld := hHeld2
                clear hHeld2
                refine wpAnyH_done (by kernel_rfl) ?_ _
                clear hHeld hK9 hK9b cC cM c2 v2 v3 q2 q3
                go_upto_region 10 with fail
                have hb5 := (sgBel w3 (.cells #[.int .i64 x1, .int .i64 (max x1 (min x2 s.mark))] 51)).drew
                have HLO := Lib.hid (show s.lostOf m (x1, x2) = (x1, (max x1 (min x2 s.mark))) by unfold Sc.lostOf; rw [if_pos]; dsimp only; rw [HUPK.out]; exact ⟨hc1, by first | exact hc2 | (simp; omega) | simp⟩)
                have hJ5 := HJ.out k _ _ HJK.out hb5
                have HI5 := Lib.hid (HI.out.below hb5 (fun b h => (hJ5.2 b h).1))
                have hy0 := HY.out k hk _ hJ5.1
                rw [← HX.out, HLO.out] at hy0
                dsimp only at hy0
                have d0 := (show At w3.heap.size 0 (.int .i64 x1) ((w3.alloc (.cells #[.int .i64 x1, .int .i64 (max x1 (min x2 s.mark))] 51)).drew) from (At.new _ rfl rfl : At w3.heap.size 0 (.int .i64 x1) (w3.alloc (.cells #[.int .i64 x1, .int .i64 (max x1 (min x2 s.mark))] 51)))).1
                have d1 := (show At w3.heap.size 1 (.int .i64 (max x1 (min x2 s.mark))) ((w3.alloc (.cells #[.int .i64 x1, .int .i64 (max x1 (min x2 s.mark))] 51)).drew) from (At.new _ rfl rfl : At w3.heap.size 1 (.int .i64 (max x1 (min x2 s.mark))) (w3.alloc (.cells #[.int .i64 x1, .int .i64 (max x1 (min x2 s.mark))] 51)))).1
                have v4 := HX0.out.below hb5 HX0.out.lt
                have v5 := HX1.out.below hb5 HX1.out.lt
                obtain ⟨v4, -⟩ := v4
                obtain ⟨v5, -⟩ := v5
                have hsz5 := Nat.le_trans HSZ.out hb5.size
                have HS5 := Lib.hid (HLS.out.below (hb5.mono HI.out.g.hz))
                generalize ((w3.alloc (.cells #[.int .i64 x1, .int .i64 (max x1 (min x2 s.mark))] 51)).drew) = w5 at hy0 d0 d1 HI5 v4 v5 hsz5 HS5 ⊢
                obtain ⟨fn, tmps, assign, body, hy, hR⟩ := hy0
                clear hb5 hJ5
                refine (wpIn_wide (n := n)).1 ?_
                gi_wp2
                refine hR.mono ?_
                rintro e w6 (⟨rfl, hJ6, hb6, hcl6⟩ | ⟨rfl, hJx⟩)
                · have hI6 := HI5.out.next hb6 hsz5 hcl6 (fun ad e => by obtain ⟨b8, o8, e8, hb8, -⟩ := HI5.out.gl.cells (by omega); rw [e8] at e; cases e; exact hb8) (HJC.out _ _ hJ6)
                  have HS7 := Lib.hid (HS5.out.below hb6)
                  have HSZ6 := Lib.hid (Nat.le_trans hsz5 hb6.size)
                  have HI6 := Lib.hid hI6
                  have HJ6 := Lib.hid hJ6
                  clear hy hR d0 d1 v4 v5 hb6 hcl6 hI6 hJ6
                  gi_wp2
                  go_wp2_with fail
                  go_roundg (s.gaps.length - k - 1)
                  case measure => omega
                  case rel => exact ⟨k + 1, ((y1, y2) :: t), (some ⟨b, off, none⟩), c, by have hgl := HGL.out; have e : wrap64 ((k : Int) + 1) = ((k + 1 : Nat) : Int) := (by unfold wrap64; omega); rw [e], by omega, by first | rfl | simp, rfl, HS7.out, by first | exact hcap | simpa using hcap, ⟨_, HCA.out⟩, fun i h hki => HUP.out i h (by omega), HI6.out, HJ6.out, HSZ6.out⟩
                · clear hy hR d0 d1 v4 v5
                  gi_wp2
                  go_wp2_with fail
                  refine bodyPost_ret (results_none rfl _ _ _) rfl ?_
                  exact ⟨⟨_, rfl⟩, .inr ⟨k, hk, hJx⟩⟩
              · go_upto_region 10 with fail
                have hb5 := sgBel w3 (.cells #[.int .i64 x1, .int .i64 x2] 51)
                have HLO := Lib.hid (show s.lostOf m (x1, x2) = (x1, x2) by unfold Sc.lostOf; rw [if_neg]; dsimp only; rw [HUPK.out]; rintro ⟨h1, h2⟩; first | exact hc1 h1 | exact hc2 (by simpa using h2) | (simp at h2; omega))
                have hJ5 := HJ.out k _ _ HJK.out hb5
                have HI5 := Lib.hid (HI.out.below hb5 (fun b h => (hJ5.2 b h).1))
                have hy0 := HY.out k hk _ hJ5.1
                rw [← HX.out, HLO.out] at hy0
                dsimp only at hy0
                have d0 := (show At w3.heap.size 0 (.int .i64 x1) (w3.alloc (.cells #[.int .i64 x1, .int .i64 x2] 51)) from At.new _ rfl rfl).1
                have d1 := (show At w3.heap.size 1 (.int .i64 x2) (w3.alloc (.cells #[.int .i64 x1, .int .i64 x2] 51)) from At.new _ rfl rfl).1
                have v4 := HX0.out.below hb5 HX0.out.lt
                have v5 := HX1.out.below hb5 HX1.out.lt
                obtain ⟨v4, -⟩ := v4
                obtain ⟨v5, -⟩ := v5
                have hsz5 := Nat.le_trans HSZ.out hb5.size
                have HS5 := Lib.hid (HLS.out.below (hb5.mono HI.out.g.hz))
                generalize (w3.alloc (.cells #[.int .i64 x1, .int .i64 x2] 51)) = w5 at hy0 d0 d1 HI5 v4 v5 hsz5 HS5 ⊢
                obtain ⟨fn, tmps, assign, body, hy, hR⟩ := hy0
                clear hb5 hJ5
                refine (wpIn_wide (n := n)).1 ?_
                gi_wp2
                refine hR.mono ?_
                rintro e w6 (⟨rfl, hJ6, hb6, hcl6⟩ | ⟨rfl, hJx⟩)
                · have hI6 := HI5.out.next hb6 hsz5 hcl6 (fun ad e => by obtain ⟨b8, o8, e8, hb8, -⟩ := HI5.out.gl.cells (by omega); rw [e8] at e; cases e; exact hb8) (HJC.out _ _ hJ6)
                  have HS7 := Lib.hid (HS5.out.below hb6)
                  have HSZ6 := Lib.hid (Nat.le_trans hsz5 hb6.size)
                  have HI6 := Lib.hid hI6
                  have HJ6 := Lib.hid hJ6
                  clear hy hR d0 d1 v4 v5 hb6 hcl6 hI6 hJ6
                  gi_wp2
                  go_wp2_with fail
                  go_roundg (s.gaps.length - k - 1)
                  case measure => omega
                  case rel => exact ⟨k + 1, ((y1, y2) :: t), (some ⟨b, off, none⟩), c, by have hgl := HGL.out; have e : wrap64 ((k : Int) + 1) = ((k + 1 : Nat) : Int) := (by unfold wrap64; omega); rw [e], by omega, by first | rfl | simp, rfl, HS7.out, by first | exact hcap | simpa using hcap, ⟨_, HCA.out⟩, fun i h hki => HUP.out i h (by omega), HI6.out, HJ6.out, HSZ6.out⟩
                · clear hy hR d0 d1 v4 v5
                  gi_wp2
                  go_wp2_with fail
                  refine bodyPost_ret (results_none rfl _ _ _) rfl ?_
                  exact ⟨⟨_, rfl⟩, .inr ⟨k, hk, hJx⟩⟩
            · go_upto_region 10 with fail
              have hb5 := sgBel w3 (.cells #[.int .i64 x1, .int .i64 x2] 51)
              have HLO := Lib.hid (show s.lostOf m (x1, x2) = (x1, x2) by unfold Sc.lostOf; rw [if_neg]; dsimp only; rw [HUPK.out]; rintro ⟨h1, h2⟩; first | exact hc1 h1 | exact hc2 (by simpa using h2) | (simp at h2; omega))
              have hJ5 := HJ.out k _ _ HJK.out hb5
              have HI5 := Lib.hid (HI.out.below hb5 (fun b h => (hJ5.2 b h).1))
              have hy0 := HY.out k hk _ hJ5.1
              rw [← HX.out, HLO.out] at hy0
              dsimp only at hy0
              have d0 := (show At w3.heap.size 0 (.int .i64 x1) (w3.alloc (.cells #[.int .i64 x1, .int .i64 x2] 51)) from At.new _ rfl rfl).1
              have d1 := (show At w3.heap.size 1 (.int .i64 x2) (w3.alloc (.cells #[.int .i64 x1, .int .i64 x2] 51)) from At.new _ rfl rfl).1
              have v4 := HX0.out.below hb5 HX0.out.lt
              have v5 := HX1.out.below hb5 HX1.out.lt
              obtain ⟨v4, -⟩ := v4
              obtain ⟨v5, -⟩ := v5
              have hsz5 := Nat.le_trans HSZ.out hb5.size
              have HS5 := Lib.hid (HLS.out.below (hb5.mono HI.out.g.hz))
              generalize (w3.alloc (.cells #[.int .i64 x1, .int .i64 x2] 51)) = w5 at hy0 d0 d1 HI5 v4 v5 hsz5 HS5 ⊢
              obtain ⟨fn, tmps, assign, body, hy, hR⟩ := hy0
              clear hb5 hJ5
              refine (wpIn_wide (n := n)).1 ?_
              gi_wp2
              refine hR.mono ?_
              rintro e w6 (⟨rfl, hJ6, hb6, hcl6⟩ | ⟨rfl, hJx⟩)
              · have hI6 := HI5.out.next hb6 hsz5 hcl6 (fun ad e => by obtain ⟨b8, o8, e8, hb8, -⟩ := HI5.out.gl.cells (by omega); rw [e8] at e; cases e; exact hb8) (HJC.out _ _ hJ6)
                have HS7 := Lib.hid (HS5.out.below hb6)
                have HSZ6 := Lib.hid (Nat.le_trans hsz5 hb6.size)
                have HI6 := Lib.hid hI6
                have HJ6 := Lib.hid hJ6
                clear hy hR d0 d1 v4 v5 hb6 hcl6 hI6 hJ6
                gi_wp2
                go_wp2_with fail
                go_roundg (s.gaps.length - k - 1)
                case measure => omega
                case rel => exact ⟨k + 1, ((y1, y2) :: t), (some ⟨b, off, none⟩), c, by have hgl := HGL.out; have e : wrap64 ((k : Int) + 1) = ((k + 1 : Nat) : Int) := (by unfold wrap64; omega); rw [e], by omega, by first | rfl | simp, rfl, HS7.out, by first | exact hcap | simpa using hcap, ⟨_, HCA.out⟩, fun i h hki => HUP.out i h (by omega), HI6.out, HJ6.out, HSZ6.out⟩
              · clear hy hR d0 d1 v4 v5
                gi_wp2
                go_wp2_with fail
                refine bodyPost_ret (results_none rfl _ _ _) rfl ?_
                exact ⟨⟨_, rfl⟩, .inr ⟨k, hk, hJx⟩⟩
    · obtain rfl : k = s.gaps.length := by omega
      go_wp2_with fail
      go_end0
      exact ⟨⟨_, rfl⟩, .inl HJK.out⟩
end Go.Proofs.Ytncjeleabpodaaa
