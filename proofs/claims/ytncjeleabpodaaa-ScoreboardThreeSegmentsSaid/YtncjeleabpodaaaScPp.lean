/- scoreboard.Pipe. -/
import Derived.Test.YtncjeleabpodaaaScGl
import Derived.Test.YtncjeleabpodaaaScLaw
namespace Go.Proofs.Ytncjeleabpodaaa
open Go.RowKit Go.Shelf
attribute [local go_sem] Oper.semAt_some
/-- The iterator's two cells. -/
def GapsCells (C M B : Nat) (m : Int) (W : World) : Prop := At C 0 (.pointer (some ⟨B, 0, none⟩)) W ∧ At M 0 (.int .i64 m) W
theorem gaps_mk (B : Nat) (m : Int) (w : World) : Calls Try.prog 59 #[.pointer (some ⟨B, 0, none⟩), .int .i64 m] w fun e w' =>
    e = .returned (.func (.func 97) #[] #[.pointer (some ⟨w.heap.size, 0, none⟩), .pointer (some ⟨w.heap.size + 1, 0, none⟩)]) ∧ GapsCells w.heap.size (w.heap.size + 1) B m w' ∧ w'.heap.size = w.heap.size + 2 ∧ Below w.heap.size w w' := by
  have hb := ((Below.refl w.heap.size w).alloc (Nat.le_refl _) (.cells #[.pointer (some ⟨B, 0, none⟩)] 42)).alloc (by simp) (.cells #[.int .i64 m] 3)
  have hG : GapsCells w.heap.size (w.heap.size + 1) B m ((w.alloc (.cells #[.pointer (some ⟨B, 0, none⟩)] 42)).alloc (.cells #[.int .i64 m] 3)) := ⟨(At.new _ rfl rfl).alloc _, At.new _ (by simp) rfl⟩
  have HB := Lib.hid hb
  have HG := Lib.hid hG
  clear hb hG
  go_enter Try.func59, Try.ntmps59
  go_wp2_with fail
  go_ret
  exact ⟨rfl, HG.out, by simp, HB.out⟩
theorem GapsCells.own {C M B : Nat} {m : Int} {A A' : World} {row : Option Nat} (h : GapsCells C M B m A) (hg : A.grownBy A' row) (hr : ∀ r, row = some r → ∃ o : Obj, A.heap[r]? = some o ∧ o.isCells = false) : GapsCells C M B m A' := ⟨h.1.own hg hr, h.2.own hg hr⟩
theorem GapsCells.alloc {C M B : Nat} {m : Int} {W : World} (h : GapsCells C M B m W) (o : Obj) : GapsCells C M B m (W.alloc o) := ⟨h.1.alloc o, h.2.alloc o⟩
theorem GapsCells.below {C M B : Nat} {m : Int} {W W' : World} (h : GapsCells C M B m W) (hb : Below W.heap.size W W') : GapsCells C M B m W' := ⟨h.1.below hb h.1.lt, h.2.below hb h.2.lt⟩
theorem GapsCells.ob {C M B : Nat} {m : Int} {W : World} (h : GapsCells C M B m W) {X i : Nat} (v : Value) (h1 : X ≠ C) (h2 : X ≠ M) : GapsCells C M B m (W.setCell ⟨X, i, none⟩ v) := ⟨h.1.ob v h1, h.2.ob v h2⟩
theorem gvOf {B lb C M : Nat} {s : Sc} {m : Int} {w W : World} (h : ScAt B lb s w) (hb : Below w.heap.size w W) (hg : GapsCells C M B m W) : ∃ sa sc, Gv w.heap.size C M B s m sa sc W := by
  obtain ⟨sa, sc, ga, gc, c0, c1, c2, c3, c4, ls, lg⟩ := h.ats
  exact ⟨sa, sc, hg.1.1, hg.2.1, (c0.below hb h.lt).1, (c1.below hb h.lt).1, (c2.below hb h.lt).1, (c3.below hb h.lt).1, ls.1.below hb, ls.2.1, h.lt, hb.size⟩
theorem pipF_take {s : Sc} {m : Int} {L : List Sp} {k : Nat} (h : k < L.length) : pipF s m (L.take (k + 1)) = pipF s m (L.take k) + (L[k].2 - L[k].1 - ((s.lostOf m L[k]).2 - (s.lostOf m L[k]).1)) := by
  induction L generalizing k with
  | nil => simp at h
  | cons x L ih =>
    cases k with
    | zero => simp [pipF]
    | succ k =>
      have := ih (k := k) (by simpa using h)
      simp only [List.take_succ_cons, pipF, List.getElem_cons_succ, this]
      omega
theorem pipF_bd (s : Sc) (m : Int) {e : Int} {L : List Sp} (h : canonF e L = true) : 0 ≤ pipF s m L ∧ pipF s m L ≤ countF L := by
  induction L generalizing e with
  | nil => exact ⟨Int.le_refl _, Int.le_refl _⟩
  | cons x l ih =>
    have h0 := canonF_cons.1 h
    obtain ⟨f1, f2, f3⟩ := lostOf_spec s m (g := x) (by omega)
    have := ih h0.2
    show 0 ≤ x.2 - x.1 - ((s.lostOf m x).2 - (s.lostOf m x).1) + pipF s m l ∧ x.2 - x.1 - ((s.lostOf m x).2 - (s.lostOf m x).1) + pipF s m l ≤ x.2 - x.1 + countF l
    omega
def pipI (S C M B : Nat) (s : Sc) (m : Int) (w : World) (k : Nat) (W : World) : Prop := At S 0 (.int .i64 (countF s.ag + pipF s m (s.gaps.take k))) W ∧ GapsCells C M B m W ∧ Below w.heap.size w W
theorem pipI_own {S C M B : Nat} {s : Sc} {m : Int} {w : World} {N : Nat} (hB : w.heap.size ≤ N) : OwnFrom N (pipI S C M B s m w) := fun _ _ _ _ h hg hr => ⟨h.1.own hg (fun r e => (hr r e).2), h.2.1.own hg (fun r e => (hr r e).2), below_own h.2.2 hg hr (Nat.le_refl _) hB⟩
set_option maxRecDepth 100000 in
set_option maxHeartbeats 2000000 in
theorem pipe1_any (M0 C0 B lb : Nat) (s : Sc) (m : Int) (w : World) (ok : s.Ok) (cM : w.cell? ⟨M0, 0, none⟩ = some (.int .i64 m)) (cC : w.cell? ⟨C0, 0, none⟩ = some (.pointer (some ⟨B, 0, none⟩))) (h : ScAt B lb s w) :
    Calls Try.prog 69 #[.pointer (some ⟨M0, 0, none⟩), .pointer (some ⟨C0, 0, none⟩)] w fun e w' => ∃ v, e = .returned v ∧ v = .int .i64 (s.pipe m) ∧ Below w.heap.size w w' := by
  have HOK := Lib.hid ok
  have HS := Lib.hid h
  have hlM := block_lt_of_cell cM
  have hlC := block_lt_of_cell cC
  dsimp only at hlM hlC
  obtain ⟨sa, sc, ga, gc, -, -, -, -, ⟨c4, -⟩, -, lg⟩ := h.ats
  have HLG := Lib.hid lg
  clear ok h lg
  refine (callsIn_wide (n := 4)).1 ?_
  refine callsIn_of_wp_marks Try.func69 rfl trivial ?_ rfl
  simp only [Try.ntmps69, List.size_toArray, List.length_cons, List.length_nil, Nat.reduceAdd, Nat.reduceSub, Array.replicate_succ, Array.replicate_zero, List.push_toArray, List.append_toArray, List.nil_append, List.cons_append]
  refine wpIn_wide.2 ?_
  by_cases hm : m < 1
  · go_wp2_with fail
    refine ret_plain rfl ⟨_, rfl, ?_, Below.refl _ _⟩
    show Value.int .i64 0 = _
    unfold Sc.pipe
    rw [if_pos hm]
  · have hm1 : 1 ≤ m := by omega
    have HCA := Lib.hid (show countL s.ag = countF s.ag by unfold countL; rw [if_pos HOK.out.cag])
    have b0 := countF_nonneg HOK.out.cag
    go_wp2_with fail
    refine (count_any w w.heap.size ga gc s.ag HLG.out.1 (Nat.le_refl _)).mono ?_
    rintro e w1 ⟨rfl, hb1⟩
    rw [HCA.out]
    have cM1 := cell_bel cM hlM hb1
    have cC1 := cell_bel cC hlC hb1
    have hz1 := hb1.size
    have HB1 := Lib.hid hb1
    clear hb1 c4
    obtain ⟨S, hS⟩ : ∃ S, S = w1.heap.size := ⟨_, rfl⟩
    have hbS := sgBel w1 (.cells #[.int .i64 (countF s.ag)] 3)
    have cM2 := cell_bel cM1 (Nat.lt_of_lt_of_le hlM hz1) hbS
    have cC2 := cell_bel cC1 (Nat.lt_of_lt_of_le hlC hz1) hbS
    clear hbS
    go_wp2_with fail
    refine (gaps_mk B m _).mono ?_
    rintro e w3 ⟨rfl, hG, hz3, hb3⟩
    have hA3 : At S 0 (.int .i64 (countF s.ag)) w3 := (At.new (W := w1) (i := 0) (v := .int .i64 (countF s.ag)) (vs := #[.int .i64 (countF s.ag)]) 3 hS rfl).below hb3 (by simp; omega)
    have hB3 : Below w.heap.size w w3 := (HB1.out.alloc hz1 _).trans (hb3.mono (by simp; omega))
    obtain ⟨sa', sc', hGv⟩ := gvOf HS.out hB3 hG
    have HGV := Lib.hid hGv
    have HA3 := Lib.hid hA3
    have HB3 := Lib.hid hB3
    have HG3 := Lib.hid hG
    have hS3 := hA3.lt
    have hSC : S ≠ (w1.alloc (.cells #[.int .i64 (countF s.ag)] 3)).heap.size := by simp; omega
    have hSM : S ≠ (w1.alloc (.cells #[.int .i64 (countF s.ag)] 3)).heap.size + 1 := by simp; omega
    have hwS : w.heap.size ≤ S := by omega
    have hC3 := hG.1.lt
    generalize (w1.alloc (.cells #[.int .i64 (countF s.ag)] 3)).heap.size = C at hSC hSM HG3 HGV hC3 ⊢
    clear hGv hA3 hB3 hG hb3 cM1 cC1 cM2 cC2 hz3
    rw [← hS]
    clear hS HB1
    have hz0 := hS3
    go_wp2_with fail
    refine (wpIn_wide (n := 4)).1 ?_
    refine wp_gaps (n₀ := w.heap.size) (by omega) HOK.out rfl rfl HGV.out none (fun _ e => by cases e) (pipI S C (C + 1) B s m w) (pipI_own (by omega)) (fun k W W' h hb => ⟨h.1.below hb h.1.lt, h.2.1.below hb, h.2.2.trans (hb.mono h.2.2.size)⟩) (fun k W b _ hc => by obtain ⟨x, v, e, -⟩ := hc; cases e) (fun k W h => ⟨h.2.1.1.1, h.2.1.2.1⟩) ?start ?round ?done
    case start =>
      refine ⟨?_, HG3.out, HB3.out⟩
      rw [List.take_zero]
      show At S 0 (.int .i64 (countF s.ag + 0)) w3
      rw [Int.add_zero]
      exact HA3.out
    case round =>
      intro l k hk W hl hWz hI
      have hws := hI.2.2.size
      have HI := Lib.hid hI
      have HT := Lib.hid (pipF_take (s := s) (m := m) hk)
      have b1 := pipF_bd s m (canonF_take (gaps_canon s) k)
      have b2 := (countF_nonneg (canonF_take (gaps_canon s) k)).2.2
      have b3 := canonF_nth (gaps_canon s) hk
      have b4 := lostOf_spec s m (g := s.gaps[k]) (by omega)
      clear hI HA3 HG3 HGV
      generalize s.lostOf m s.gaps[k] = y at HT b4 ⊢
      generalize s.gaps[k] = x at HT b3 b4 ⊢
      obtain ⟨x1, x2⟩ := x
      obtain ⟨y1, y2⟩ := y
      dsimp only at HT b3 b4 ⊢
      obtain ⟨b4a, b4⟩ := b4
      replace b4a := b4a.symm
      subst b4a
      gi_wp2
      refine ⟨((KeepsOthers.alloc _ _).trans (KeepsOthers.alloc _ _)).from _, ((Below.refl _ W).alloc hws _).alloc (by simp; omega) _, (FrA.alloc (fun _ e => by cases e) _).trans (FrA.alloc (fun _ e => by cases e) _) (by simp), fun _ W2 => pipI S C (C + 1) B s m w k W2 ∧ At W.heap.size 0 (.int .i64 x1) W2 ∧ At W.heap.size 1 (.int .i64 x2) W2 ∧ At (W.heap.size + 1) 0 (.int .i64 x1) W2 ∧ At (W.heap.size + 1) 1 (.int .i64 y2) W2, ?_, ⟨⟨(HI.out.1.alloc _).alloc _, (HI.out.2.1.alloc _).alloc _, (HI.out.2.2.alloc hws _).alloc (by simp; omega) _⟩, (At.new _ rfl rfl).alloc _, (At.new _ rfl rfl).alloc _, At.new _ (by simp) rfl, At.new _ (by simp) rfl⟩, ?_⟩
      · intro _ A A' row h hg hr
        have hr2 := fun r e => (hr r e).2
        exact ⟨pipI_own (N := w3.heap.size) (by omega) _ _ _ _ h.1 hg hr, h.2.1.own hg hr2, h.2.2.1.own hg hr2, h.2.2.2.1.own hg hr2, h.2.2.2.2.own hg hr2⟩
      · rintro W2 ⟨hI2, ⟨c0, -⟩, ⟨c1, -⟩, ⟨d0, -⟩, ⟨d1, -⟩⟩
        obtain ⟨s0, fs⟩ := hI2.1
        have HI2 := Lib.hid hI2
        clear hI2 HI
        gi_wp2
        refine ⟨(KeepsOthers.setCell _ _ _).from _, (Below.refl _ W2).setCell (p := ⟨S, 0, none⟩) hwS _, fun b h1 h2 h3 => ⟨Below.heap_setCell _ ⟨S, 0, none⟩ _ b (by show b ≠ S; omega), fun ⟨x, v, e, _⟩ => by cases e⟩, ?_, HI2.out.2.1.ob _ hSC hSM, HI2.out.2.2.setCell (p := ⟨S, 0, none⟩) hwS _⟩
        rw [HT.out, ← Int.add_assoc]
        exact HI2.out.1.set _
    case done =>
      intro D W hD hI hDf
      obtain ⟨s0, fs⟩ := hI.1
      have HI := Lib.hid hI
      have HD := Lib.hid hDf
      have hD2 : w.heap.size ≤ D := by omega
      clear hI hDf hD HA3 HG3 HGV
      go_wp2_with fail
      refine ret_marks rfl HD.out ⟨_, rfl, ?_, below_take HI.out.2.2 (Nat.le_refl _) hD2⟩
      show Value.int .i64 (countF s.ag + pipF s m s.gaps) = _
      unfold Sc.pipe
      rw [if_neg (by omega)]
theorem scpipe_any (B lb : Nat) (s : Sc) (m : Int) (w : World) (ok : s.Ok) (h : ScAt B lb s w) :
    Calls Try.prog 31 #[.pointer (some ⟨B, 0, none⟩), .int .i64 m] w fun e w' => e = .returned (.int .i64 (s.pipe m)) ∧ Below w.heap.size w w' := by
  have hb := (sgBel w (.cells #[.pointer (some ⟨B, 0, none⟩)] 42)).alloc (by simp) (.cells #[.int .i64 m] 3)
  have HU := Lib.hid (pipe1_any (w.heap.size + 1) w.heap.size B lb s m ((w.alloc (.cells #[.pointer (some ⟨B, 0, none⟩)] 42)).alloc (.cells #[.int .i64 m] 3)) ok (At.new (W := w.alloc (.cells #[.pointer (some ⟨B, 0, none⟩)] 42)) (vs := #[.int .i64 m]) 3 (by simp) rfl).1 ((At.new (W := w) (vs := #[.pointer (some ⟨B, 0, none⟩)]) 42 rfl rfl).alloc (.cells #[.int .i64 m] 3)).1 (h.below hb))
  have HB := Lib.hid hb
  clear hb h
  go_enter Try.func31, Try.ntmps31
  go_wp2_with fail
  refine (unless_Pipe _ _ _ _ HU.out).mono ?_
  rintro e w1 ⟨v, rfl, rfl, hb⟩
  have HB2 := Lib.hid (HB.out.trans (hb.mono HB.out.size))
  clear hb HB HU
  go_wp2_with fail
  go_ret
  exact ⟨rfl, HB2.out⟩
end Go.Proofs.Ytncjeleabpodaaa
