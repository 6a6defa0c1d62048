/- scoreboard.Pipe. scoreboard.Lost. -/
import Derived.Test.YtncjeleabpodaaaScGl
import Derived.Test.YtncjeleabpodaaaScLaw
namespace Go.Proofs.Ytncjeleabpodaaa
open Go.RowKit Go.Shelf
attribute [local go_sem] Oper.semAt_some
/-- The iterator's two cells. -/
def GapsCells (C M B : Nat) (m : Int) (W : World) : Prop := At C 0 (.pointer (some ⟨B, 0, none⟩)) W ∧ At M 0 (.int .i64 m) W
theorem gaps_mk (B : Nat) (m : Int) (w : World) : Calls Try.prog 59 #[.pointer (some ⟨B, 0, none⟩), .int .i64 m] w fun e w' =>
    e = .returned (.func (.func 97) #[] #[.pointer (some ⟨w.heap.size, 0, none⟩), .pointer (some ⟨w.heap.size + 1, 0, none⟩)]) ∧ GapsCells w.heap.size (w.heap.size + 1) B m w' ∧ w'.heap.size = w.heap.size + 2 ∧ Below w.heap.size w w' := by
  have hb := ((Below.refl w.heap.size w).alloc (Nat.le_refl _) (.cells #[.pointer (some ⟨B, 0, none⟩)] 42)).alloc (by simp) (.cells #[.int .i64 m] 3)
  have hG : GapsCells w.heap.size (w.heap.size + 1) B m ((w.alloc (.cells #[.pointer (some ⟨B, 0, none⟩)] 42)).alloc (.cells #[.int .i64 m] 3)) := ⟨(At.new _ rfl rfl).alloc _, At.new _ (by simp) rfl⟩
  have HB := Lib.hid hb
  have HG := Lib.hid hG
  clear hb hG
  go_enter Try.func59, Try.ntmps59
  go_wp2_with fail
  go_ret
  exact ⟨rfl, HG.out, by simp, HB.out⟩
theorem GapsCells.own {C M B : Nat} {m : Int} {A A' : World} {row : Option Nat} (h : GapsCells C M B m A) (hg : A.grownBy A' row) (hr : ∀ r, row = some r → ∃ o : Obj, A.heap[r]? = some o ∧ o.isCells = false) : GapsCells C M B m A' := ⟨h.1.own hg hr, h.2.own hg hr⟩
theorem GapsCells.alloc {C M B : Nat} {m : Int} {W : World} (h : GapsCells C M B m W) (o : Obj) : GapsCells C M B m (W.alloc o) := ⟨h.1.alloc o, h.2.alloc o⟩
theorem GapsCells.below {C M B : Nat} {m : Int} {W W' : World} (h : GapsCells C M B m W) (hb : Below W.heap.size W W') : GapsCells C M B m W' := ⟨h.1.below hb h.1.lt, h.2.below hb h.2.lt⟩
theorem GapsCells.ob {C M B : Nat} {m : Int} {W : World} (h : GapsCells C M B m W) {X i : Nat} (v : Value) (h1 : X ≠ C) (h2 : X ≠ M) : GapsCells C M B m (W.setCell ⟨X, i, none⟩ v) := ⟨h.1.ob v h1, h.2.ob v h2⟩
theorem gvOf {B lb C M : Nat} {s : Sc} {m : Int} {w W : World} (h : ScAt B lb s w) (hb : Below w.heap.size w W) (hg : GapsCells C M B m W) : ∃ sa sc, Gv w.heap.size C M B s m sa sc W := by
  obtain ⟨sa, sc, ga, gc, c0, c1, c2, c3, c4, ls, lg⟩ := h.ats
  exact ⟨sa, sc, hg.1.1, hg.2.1, (c0.below hb h.lt).1, (c1.below hb h.lt).1, (c2.below hb h.lt).1, (c3.below hb h.lt).1, ls.1.below hb, ls.2.1, h.lt, hb.size⟩
theorem pipF_take {s : Sc} {m : Int} {L : List Sp} {k : Nat} (h : k < L.length) : pipF s m (L.take (k + 1)) = pipF s m (L.take k) + (L[k].2 - L[k].1 - ((s.lostOf m L[k]).2 - (s.lostOf m L[k]).1)) := by
  induction L generalizing k with
  | nil => simp at h
  | cons x L ih =>
    cases k with
    | zero => simp [pipF]
    | succ k =>
      have := ih (k := k) (by simpa using h)
      simp only [List.take_succ_cons, pipF, List.getElem_cons_succ, this]
      omega
theorem pipF_bd (s : Sc) (m : Int) {e : Int} {L : List Sp} (h : canonF e L = true) : 0 ≤ pipF s m L ∧ pipF s m L ≤ countF L := by
  induction L generalizing e with
  | nil => exact ⟨Int.le_refl _, Int.le_refl _⟩
  | cons x l ih =>
    have h0 := canonF_cons.1 h
    obtain ⟨f1, f2, f3⟩ := lostOf_spec s m (g := x) (by omega)
    have := ih h0.2
    show 0 ≤ x.2 - x.1 - ((s.lostOf m x).2 - (s.lostOf m x).1) + pipF s m l ∧ x.2 - x.1 - ((s.lostOf m x).2 - (s.lostOf m x).1) + pipF s m l ≤ x.2 - x.1 + countF l
    omega
def pipI (S C M B : Nat) (s : Sc) (m : Int) (w : World) (k : Nat) (W : World) : Prop := At S 0 (.int .i64 (countF s.ag + pipF s m (s.gaps.take k))) W ∧ GapsCells C M B m W ∧ Below w.heap.size w W
theorem pipI_own {S C M B : Nat} {s : Sc} {m : Int} {w : World} {N : Nat} (hB : w.heap.size ≤ N) : OwnFrom N (pipI S C M B s m w) := fun _ _ _ _ h hg hr => ⟨h.1.own hg (fun r e => (hr r e).2), h.2.1.own hg (fun r e => (hr r e).2), below_own h.2.2 hg hr (Nat.le_refl _) hB⟩
set_option maxRecDepth 100000 in
set_option maxHeartbeats 2000000 in
theorem pipe1_any (M0 C0 B lb : Nat) (s : Sc) (m : Int) (w : World) (ok : s.Ok) (cM : w.cell? ⟨M0, 0, none⟩ = some (.int .i64 m)) (cC : w.cell? ⟨C0, 0, none⟩ = some (.pointer (some ⟨B, 0, none⟩))) (h : ScAt B lb s w) :
    Calls Try.prog 69 #[.pointer (some ⟨M0, 0, none⟩), .pointer (some ⟨C0, 0, none⟩)] w fun e w' => ∃ v, e = .returned v ∧ v = .int .i64 (s.pipe m) ∧ Below w.heap.size w w' := by
  have HOK := Lib.hid ok
  have HS := Lib.hid h
  have hlM := block_lt_of_cell cM
  have hlC := block_lt_of_cell cC
  dsimp only at hlM hlC
  obtain ⟨sa, sc, ga, gc, -, -, -, -, ⟨c4, -⟩, -, lg⟩ := h.ats
  have HLG := Lib.hid lg
  clear ok h lg
  refine (callsIn_wide (n := 4)).1 ?_
  refine callsIn_of_wp_marks Try.func69 rfl trivial ?_ rfl
  simp only [Try.ntmps69, List.size_toArray, List.length_cons, List.length_nil, Nat.reduceAdd, Nat.reduceSub, Array.replicate_succ, Array.replicate_zero, List.push_toArray, List.append_toArray, List.nil_append, List.cons_append]
  refine wpIn_wide.2 ?_
  by_cases hm : m < 1
  · go_wp2_with fail
    refine ret_plain rfl ⟨_, rfl, ?_, Below.refl _ _⟩
    show Value.int .i64 0 = _
    unfold Sc.pipe
    rw [if_pos hm]
  · have hm1 : 1 ≤ m := by omega
    have HCA := Lib.hid (show countL s.ag = countF s.ag by unfold countL; rw [if_pos HOK.out.cag])
    have b0 := countF_nonneg HOK.out.cag
    go_wp2_with fail
    refine (count_any w w.heap.size ga gc s.ag HLG.out.1 (Nat.le_refl _)).mono ?_
    rintro e w1 ⟨rfl, hb1⟩
    rw [HCA.out]
    have cM1 := cell_bel cM hlM hb1
    have cC1 := cell_bel cC hlC hb1
    have hz1 := hb1.size
    have HB1 := Lib.hid hb1
    clear hb1 c4
    obtain ⟨S, hS⟩ : ∃ S, S = w1.heap.size := ⟨_, rfl⟩
    have hbS := sgBel w1 (.cells #[.int .i64 (countF s.ag)] 3)
    have cM2 := cell_bel cM1 (Nat.lt_of_lt_of_le hlM hz1) hbS
    have cC2 := cell_bel cC1 (Nat.lt_of_lt_of_le hlC hz1) hbS
    clear hbS
    go_wp2_with fail
    refine (gaps_mk B m _).mono ?_
    rintro e w3 ⟨rfl, hG, hz3, hb3⟩
    have hA3 : At S 0 (.int .i64 (countF s.ag)) w3 := (At.new (W := w1) (i := 0) (v := .int .i64 (countF s.ag)) (vs := #[.int .i64 (countF s.ag)]) 3 hS rfl).below hb3 (by simp; omega)
    have hB3 : Below w.heap.size w w3 := (HB1.out.alloc hz1 _).trans (hb3.mono (by simp; omega))
    obtain ⟨sa', sc', hGv⟩ := gvOf HS.out hB3 hG
    have HGV := Lib.hid hGv
    have HA3 := Lib.hid hA3
    have HB3 := Lib.hid hB3
    have HG3 := Lib.hid hG
    have hS3 := hA3.lt
    have hSC : S ≠ (w1.alloc (.cells #[.int .i64 (countF s.ag)] 3)).heap.size := by simp; omega
    have hSM : S ≠ (w1.alloc (.cells #[.int .i64 (countF s.ag)] 3)).heap.size + 1 := by simp; omega
    have hwS : w.heap.size ≤ S := by omega
    have hC3 := hG.1.lt
    generalize (w1.alloc (.cells #[.int .i64 (countF s.ag)] 3)).heap.size = C at hSC hSM HG3 HGV hC3 ⊢
    clear hGv hA3 hB3 hG hb3 cM1 cC1 cM2 cC2 hz3
    rw [← hS]
    clear hS HB1
    have hz0 := hS3
    go_wp2_with fail
    refine (wpIn_wide (n := 4)).1 ?_
    refine wp_gaps (n₀ := w.heap.size) (by omega) HOK.out rfl rfl HGV.out none (fun _ e => by cases e) (pipI S C (C + 1) B s m w) (pipI_own (by omega)) (fun k W W' h hb => ⟨h.1.below hb h.1.lt, h.2.1.below hb, h.2.2.trans (hb.mono h.2.2.size)⟩) (fun k W b _ hc => by obtain ⟨x, v, e, -⟩ := hc; cases e) (fun k W h => ⟨h.2.1.1.1, h.2.1.2.1⟩) ?start ?round ?done
    case start =>
      refine ⟨?_, HG3.out, HB3.out⟩
      rw [List.take_zero]
      show At S 0 (.int .i64 (countF s.ag + 0)) w3
      rw [Int.add_zero]
      exact HA3.out
    case round =>
      intro l k hk W hl hWz hI
      have hws := hI.2.2.size
      have HI := Lib.hid hI
      have HT := Lib.hid (pipF_take (s := s) (m := m) hk)
      have b1 := pipF_bd s m (canonF_take (gaps_canon s) k)
      have b2 := (countF_nonneg (canonF_take (gaps_canon s) k)).2.2
      have b3 := canonF_nth (gaps_canon s) hk
      have b4 := lostOf_spec s m (g := s.gaps[k]) (by omega)
      clear hI HA3 HG3 HGV
      generalize s.lostOf m s.gaps[k] = y at HT b4 ⊢
      generalize s.gaps[k] = x at HT b3 b4 ⊢
      obtain ⟨x1, x2⟩ := x
      obtain ⟨y1, y2⟩ := y
      dsimp only at HT b3 b4 ⊢
      obtain ⟨b4a, b4⟩ := b4
      replace b4a := b4a.symm
      subst b4a
      gi_wp2
      refine ⟨((KeepsOthers.alloc _ _).trans (KeepsOthers.alloc _ _)).from _, ((Below.refl _ W).alloc hws _).alloc (by simp; omega) _, (FrA.alloc (fun _ e => by cases e) _).trans (FrA.alloc (fun _ e => by cases e) _) (by simp), fun _ W2 => pipI S C (C + 1) B s m w k W2 ∧ At W.heap.size 0 (.int .i64 x1) W2 ∧ At W.heap.size 1 (.int .i64 x2) W2 ∧ At (W.heap.size + 1) 0 (.int .i64 x1) W2 ∧ At (W.heap.size + 1) 1 (.int .i64 y2) W2, ?_, ⟨⟨(HI.out.1.alloc _).alloc _, (HI.out.2.1.alloc _).alloc _, (HI.out.2.2.alloc hws _).alloc (by simp; omega) _⟩, (At.new _ rfl rfl).alloc _, (At.new _ rfl rfl).alloc _, At.new _ (by simp) rfl, At.new _ (by simp) rfl⟩, ?_⟩
      · intro _ A A' row h hg hr
        have hr2 := fun r e => (hr r e).2
        exact ⟨pipI_own (N := w3.heap.size) (by omega) _ _ _ _ h.1 hg hr, h.2.1.own hg hr2, h.2.2.1.own hg hr2, h.2.2.2.1.own hg hr2, h.2.2.2.2.own hg hr2⟩
      · rintro W2 ⟨hI2, ⟨c0, -⟩, ⟨c1, -⟩, ⟨d0, -⟩, ⟨d1, -⟩⟩
        obtain ⟨s0, fs⟩ := hI2.1
        have HI2 := Lib.hid hI2
        clear hI2 HI
        gi_wp2
        refine ⟨(KeepsOthers.setCell _ _ _).from _, (Below.refl _ W2).setCell (p := ⟨S, 0, none⟩) hwS _, fun b h1 h2 h3 => ⟨Below.heap_setCell _ ⟨S, 0, none⟩ _ b (by show b ≠ S; omega), fun ⟨x, v, e, _⟩ => by cases e⟩, ?_, HI2.out.2.1.ob _ hSC hSM, HI2.out.2.2.setCell (p := ⟨S, 0, none⟩) hwS _⟩
        rw [HT.out, ← Int.add_assoc]
        exact HI2.out.1.set _
    case done =>
      intro D W hD hI hDf
      obtain ⟨s0, fs⟩ := hI.1
      have HI := Lib.hid hI
      have HD := Lib.hid hDf
      have hD2 : w.heap.size ≤ D := by omega
      clear hI hDf hD HA3 HG3 HGV
      go_wp2_with fail
      refine ret_marks rfl HD.out ⟨_, rfl, ?_, below_take HI.out.2.2 (Nat.le_refl _) hD2⟩
      show Value.int .i64 (countF s.ag + pipF s m s.gaps) = _
      unfold Sc.pipe
      rw [if_neg (by omega)]
theorem scpipe_any (B lb : Nat) (s : Sc) (m : Int) (w : World) (ok : s.Ok) (h : ScAt B lb s w) :
    Calls Try.prog 31 #[.pointer (some ⟨B, 0, none⟩), .int .i64 m] w fun e w' => e = .returned (.int .i64 (s.pipe m)) ∧ Below w.heap.size w w' := by
  have hb := (sgBel w (.cells #[.pointer (some ⟨B, 0, none⟩)] 42)).alloc (by simp) (.cells #[.int .i64 m] 3)
  have HU := Lib.hid (pipe1_any (w.heap.size + 1) w.heap.size B lb s m ((w.alloc (.cells #[.pointer (some ⟨B, 0, none⟩)] 42)).alloc (.cells #[.int .i64 m] 3)) ok (At.new (W := w.alloc (.cells #[.pointer (some ⟨B, 0, none⟩)] 42)) (vs := #[.int .i64 m]) 3 (by simp) rfl).1 ((At.new (W := w) (vs := #[.pointer (some ⟨B, 0, none⟩)]) 42 rfl rfl).alloc (.cells #[.int .i64 m] 3)).1 (h.below hb))
  have HB := Lib.hid hb
  clear hb h
  go_enter Try.func31, Try.ntmps31
  go_wp2_with fail
  refine (unless_Pipe _ _ _ _ HU.out).mono ?_
  rintro e w1 ⟨v, rfl, rfl, hb⟩
  have HB2 := Lib.hid (HB.out.trans (hb.mono HB.out.size))
  clear hb HB HU
  go_wp2_with fail
  go_ret
  exact ⟨rfl, HB2.out⟩
end Go.Proofs.Ytncjeleabpodaaa
namespace Go.Proofs.Ytncjeleabpodaaa
open Go.RowKit Go.Shelf
attribute [local go_sem] Oper.semAt_some
theorem withMap_take {s : Sc} {m : Int} {L : List Sp} {k : Nat} (h : k < L.length) : withL ((L.take (k + 1)).map (s.lostOf m)) = withL ((L.take k).map (s.lostOf m)) ++ (if (s.lostOf m L[k]).1 < (s.lostOf m L[k]).2 then [s.lostOf m L[k]] else []) := by
  rw [List.take_succ_eq_append_getElem h, List.map_append]
  unfold withL
  rw [List.filter_append, List.map_cons, List.map_nil]
  congr 1
  by_cases hl : (s.lostOf m L[k]).1 < (s.lostOf m L[k]).2
  · rw [if_pos hl, List.filter_cons_of_pos (by simpa using hl)]; rfl
  · rw [if_neg hl, List.filter_cons_of_neg (by simpa using hl)]; rfl
theorem withMap_len (s : Sc) (m : Int) (L : List Sp) : (withL (L.map (s.lostOf m))).length ≤ L.length := by
  unfold withL
  exact Nat.le_trans (List.length_filter_le _ _) (by rw [List.length_map]; exact Nat.le_refl _)
/-- What the loop of Lost keeps: the slice in cell A0, of blocks from N on. -/
def lstI (A0 N C M B : Nat) (s : Sc) (m : Int) (w : World) (k : Nat) (W : World) : Prop :=
  ∃ v, At A0 0 v W ∧ OwnSp W N v (withL ((s.gaps.take k).map (s.lostOf m))) ∧ GapsCells C M B m W ∧ Below w.heap.size w W
theorem lstI_own {A0 N0 C M B : Nat} {s : Sc} {m : Int} {w : World} {N : Nat} (hB : w.heap.size ≤ N) : OwnFrom N (lstI A0 N0 C M B s m w) := fun _ _ _ _ ⟨v, h1, h2, h3, h4⟩ hg hr =>
  ⟨v, h1.own hg (fun r e => (hr r e).2), h2.own hg (fun r e => (hr r e).2), h3.own hg (fun r e => (hr r e).2), below_own h4 hg hr (Nat.le_refl _) hB⟩
set_option maxRecDepth 100000 in
set_option maxHeartbeats 2000000 in
theorem lost1_any (M0 C0 B lb : Nat) (s : Sc) (m : Int) (w : World) (ok : s.Ok) (cM : w.cell? ⟨M0, 0, none⟩ = some (.int .i64 m)) (cC : w.cell? ⟨C0, 0, none⟩ = some (.pointer (some ⟨B, 0, none⟩))) (h : ScAt B lb s w) :
    Calls Try.prog 58 #[.pointer (some ⟨M0, 0, none⟩), .pointer (some ⟨C0, 0, none⟩)] w fun e w' => ∃ v, e = .returned v ∧ OwnSp w' w.heap.size v (s.lost m) ∧ Below w.heap.size w w' := by
  have HOK := Lib.hid ok
  have HS := Lib.hid h
  have hlM := block_lt_of_cell cM
  have hlC := block_lt_of_cell cC
  dsimp only at hlM hlC
  clear ok h
  refine (callsIn_wide (n := 4)).1 ?_
  refine callsIn_of_wp_marks Try.func58 rfl trivial ?_ rfl
  simp only [Try.ntmps58, List.size_toArray, List.length_cons, List.length_nil, Nat.reduceAdd, Nat.reduceSub, Array.replicate_succ, Array.replicate_zero, List.push_toArray, List.append_toArray, List.nil_append, List.cons_append]
  refine wpIn_wide.2 ?_
  by_cases hm : m < 1
  · go_wp2_with fail
    refine ret_plain rfl ⟨_, rfl, ?_, Below.refl _ _⟩
    unfold Sc.lost
    rw [if_pos hm]
    exact OwnSp.nil _ _
  · have hm1 : 1 ≤ m := by omega
    have hbS := sgBel w (.cells #[.slice none 0 0] 29)
    have cM2 := cell_bel cM hlM hbS
    have cC2 := cell_bel cC hlC hbS
    clear hbS
    go_wp2_with fail
    refine (gaps_mk B m _).mono ?_
    rintro e w3 ⟨rfl, hG, hz3, hb3⟩
    have hA3 : At w.heap.size 0 (.slice none 0 0) w3 := (At.new (W := w) (i := 0) (v := .slice none 0 0) (vs := #[.slice none 0 0]) 29 rfl rfl).below hb3 (by simp)
    have hB3 : Below w.heap.size w w3 := ((Below.refl _ w).alloc (Nat.le_refl _) _).trans (hb3.mono (by simp))
    have cM3 := cell_bel cM hlM hB3
    have cC3 := cell_bel cC hlC hB3
    obtain ⟨sa', sc', hGv⟩ := gvOf HS.out hB3 hG
    have HGV := Lib.hid hGv
    have HA3 := Lib.hid hA3
    have HB3 := Lib.hid hB3
    have HG3 := Lib.hid hG
    have hS3 := hA3.lt
    have hSC : w.heap.size ≠ (w.alloc (.cells #[.slice none 0 0] 29)).heap.size := by simp
    have hSM : w.heap.size ≠ (w.alloc (.cells #[.slice none 0 0] 29)).heap.size + 1 := by simp; omega
    have hC3 := hG.2.lt
    generalize (w.alloc (.cells #[.slice none 0 0] 29)).heap.size = C at hSC hSM HG3 HGV hC3 ⊢
    clear hGv hA3 hB3 hG hb3 cM2 cC2 hz3 cM
    go_wp2_with fail
    refine (wpIn_wide (n := 4)).1 ?_
    refine wp_gaps (n₀ := w.heap.size) (by omega) HOK.out rfl rfl HGV.out (some w.heap.size) (fun x e => by cases e; exact hS3) (lstI w.heap.size (w3.heap.size + 2) C (C + 1) B s m w) (lstI_own (by omega)) (fun k W W' ⟨v, h1, h2, h3, h4⟩ hb => ⟨v, h1.below hb h1.lt, h2.own2 hb, h3.below hb, h4.trans (hb.mono h4.size)⟩)
      (fun k W b ⟨v, h1, h2, h3, h4⟩ hc => by obtain ⟨x, v', e, hc, ho⟩ := hc; cases e; rw [h1.1] at hc; cases hc; exact (h2.lt b ho).2) (fun k W ⟨v, h1, h2, h3, h4⟩ => ⟨h3.1.1, h3.2.1⟩) ?start ?round ?done
    case start => exact ⟨_, HA3.out, OwnSp.nil _ _, HG3.out, HB3.out⟩
    case round =>
      rintro l k hk W hl hWz ⟨v, hA, hO, hG, hB⟩
      have hws := hB.size
      have HI := Lib.hid (show At w.heap.size 0 v W ∧ OwnSp W (w3.heap.size + 2) v (withL ((s.gaps.take k).map (s.lostOf m))) ∧ GapsCells C (C + 1) B m W ∧ Below w.heap.size w W from ⟨hA, hO, hG, hB⟩)
      have HT := Lib.hid (withMap_take (s := s) (m := m) hk)
      have hln := withMap_len s m (s.gaps.take k)
      have hgl := gaps_len s
      rw [List.length_take] at hln
      clear hA hO hG hB HA3 HG3 HGV
      generalize withL ((s.gaps.take k).map (s.lostOf m)) = O at HI HT hln
      generalize s.lostOf m s.gaps[k] = y at HT ⊢
      generalize s.gaps[k] = x
      obtain ⟨x1, x2⟩ := x
      obtain ⟨y1, y2⟩ := y
      dsimp only at HT ⊢
      have hAl := HI.out.1.lt
      gi_wp2
      refine ⟨(KeepsOthers.alloc _ _).from _, (Below.refl _ W).alloc hws _, FrA.alloc (fun x e => by cases e; exact hAl) _, fun _ W2 => (At w.heap.size 0 v W2 ∧ OwnSp W2 (w3.heap.size + 2) v O ∧ GapsCells C (C + 1) B m W2 ∧ Below w.heap.size w W2) ∧ At W.heap.size 0 (.int .i64 y1) W2 ∧ At W.heap.size 1 (.int .i64 y2) W2, ?_, ⟨⟨HI.out.1.alloc _, HI.out.2.1.alloc _, HI.out.2.2.1.alloc _, HI.out.2.2.2.alloc hws _⟩, At.new _ rfl rfl, At.new _ rfl rfl⟩, ?_⟩
      · intro _ A A' row h hg hr
        have hr2 := fun r e => (hr r e).2
        exact ⟨⟨h.1.1.own hg hr2, h.1.2.1.own hg hr2, h.1.2.2.1.own hg hr2, below_own h.1.2.2.2 hg hr (Nat.le_refl _) (by omega)⟩, h.2.1.own hg hr2, h.2.2.own hg hr2⟩
      · rintro W2 ⟨hI2, ⟨c0, -⟩, ⟨c1, -⟩⟩
        obtain ⟨a0, f0⟩ := hI2.1
        have HI2 := Lib.hid hI2
        clear hI2 HI
        by_cases hy : y1 < y2
        · have hW2 : W.heap.size < W2.heap.size := block_lt_of_cell c0
          gi_wp2_with (first | (gi_at_builtin; refine wpListIn_append_span _ rfl _ _ rfl (w3.heap.size + 2) _ _ rfl (HI2.out.2.1.alloc _) (by omega) W2.heap.size (y1, y2) rfl (by simp) (by simp) (by simp; omega) ?_))
          intro v' w' ho hgr hbl
          obtain ⟨va', vc', hv', -⟩ := ho.at (by rw [List.length_append]; simp; omega)
          have hA' : At w.heap.size 0 v w' := (HI2.out.1.alloc _).grown hgr (fun e => by have := (HI2.out.2.1.lt _ e).1; omega)
          have hG' : GapsCells C (C + 1) B m w' := ⟨(HI2.out.2.2.1.1.alloc _).grown hgr (fun e => by have := (HI2.out.2.1.lt _ e).1; omega), (HI2.out.2.2.1.2.alloc _).grown hgr (fun e => by have := (HI2.out.2.1.lt _ e).1; omega)⟩
          have hB' : Below w.heap.size W2 w' := ((Below.refl w.heap.size W2).alloc (by omega) _).trans (grown_below hgr (by simp; omega) (fun b e => by have := (HI2.out.2.1.lt _ e).1; omega))
          have hK' := ((KeepsOthers.alloc W2 (.cells #[.int .i64 y1, .int .i64 y2] 51)).trans (keeps_own (HI2.out.2.1.alloc _) hgr))
          have hne : v'.ownBlock ≠ some w.heap.size := by
            intro e
            have := (ho.lt _ e).1
            omega
          obtain ⟨a1, f1⟩ := hA'
          have hFr : FrA (some w.heap.size) (w3.heap.size + 2) W2 (w'.setCell ⟨w.heap.size, 0, none⟩ v') := by
            intro b h1 h2 h3
            have hvb : v.ownBlock ≠ some b := fun e => h3 ⟨_, _, rfl, HI2.out.1.1, e⟩
            refine ⟨(Below.heap_setCell _ ⟨w.heap.size, 0, none⟩ _ b (by show b ≠ w.heap.size; omega)).trans ((hgr.block b (by simp; omega) (fun e => hvb e.symm)).trans (Below.heap_alloc _ _ _ h1)), ?_⟩
            rintro ⟨x, u, e, hc, ho2⟩
            cases e
            rw [World.cell?_setCell_same _ _ _ a1] at hc
            cases hc
            rcases hbl with h | ⟨kk, h, hk⟩
            · rw [h] at ho2; exact hvb ho2
            · rw [h] at ho2; cases ho2; omega
          have HN := Lib.hid (And.intro ho (And.intro hne (And.intro hG' (And.intro hB' (And.intro hK' hFr)))))
          have hB2 := HI2.out.2.2.2
          have HB2 := Lib.hid hB2
          have HF := Lib.hid f1
          clear ho hgr hbl a0 f0 c0 c1 hG' hB' hK' hFr hne hB2 HI2
          generalize (O ++ [(y1, y2)]).length = nl at hv'
          subst hv'
          gi_wp2_with fail
          obtain ⟨ho, hne, hG', hB', hK', hFr⟩ := HN.out
          refine ⟨(hK'.trans (KeepsOthers.setCell _ _ _)).from _, hB'.setCell (p := ⟨w.heap.size, 0, none⟩) (Nat.le_refl _) _, hFr, _, (show At w.heap.size 0 v w' from ⟨a1, HF.out⟩).set _, ?_, hG'.ob _ hSC hSM, (HB2.out.trans hB').setCell (p := ⟨w.heap.size, 0, none⟩) (Nat.le_refl _) _⟩
          rw [HT.out, if_pos hy]
          exact ho.setCell _ _ _ hne
        · gi_wp2
          refine ⟨KeepsFrom.refl _ _, Below.refl _ _, FrA.refl _ _ _, v, HI2.out.1, ?_, HI2.out.2.2⟩
          rw [HT.out, if_neg (by omega), List.append_nil]
          exact HI2.out.2.1
    case done =>
      rintro D W hD ⟨v, hA, hO, hG, hB⟩ hDf
      rw [List.take_length] at hO
      have HALL := Lib.hid (all_spec s m).1
      have hvl := withMap_len s m s.gaps
      have hgl := gaps_len s
      have hlo := Lib.hid (show s.lost m = wthF (s.all m) s.ag from lost_eq hm1)
      rw [show withL (s.gaps.map (s.lostOf m)) = s.all m from rfl] at hO hvl
      generalize s.all m = VL at hO hvl HALL hlo
      obtain ⟨va, vc, rfl, hsp, -, -⟩ := hO.at (by omega)
      obtain ⟨sa2, sc2, ga, gc, -, -, -, -, q4, -, lg⟩ := (HS.out.below hB).ats
      have HLG := Lib.hid lg
      have HSP := Lib.hid hsp
      have HB := Lib.hid hB
      have HD := Lib.hid hDf
      have hD2 : w.heap.size ≤ D := by omega
      have hK := (show (fun W : World => W.cell? ⟨w.heap.size, 0, none⟩ = some (.slice va VL.length vc) ∧ W.cell? ⟨C0, 0, none⟩ = some (.pointer (some ⟨B, 0, none⟩)) ∧ W.cell? ⟨B, 4, none⟩ = some (.slice ga s.ag.length gc)) W from ⟨hA.1, cell_bel cC hlC hB, q4.1⟩)
      clear hA hO hG hB hDf hD HA3 HG3 HGV HB3 lg hsp q4 cM3 cC3
      go_wp2_with fail
      refine wp_mono (Q := noPanic _) ?_ (noPanic_le _)
      refine wp_region_held_drew (S := (fun W : World => W.cell? ⟨w.heap.size, 0, none⟩ = some (.slice va VL.length vc) ∧ W.cell? ⟨C0, 0, none⟩ = some (.pointer (some ⟨B, 0, none⟩)) ∧ W.cell? ⟨B, 4, none⟩ = some (.slice ga s.ag.length gc))) (by kernel_rfl) (hK) (fun hHeld => ?_)
      clear hK
      refine wpAnyH_take (i := 0) (v := ?_) (by simp only [List.getElem?_toArray, List.getElem?_cons_zero]; rfl) (by kernel_rfl) (by kernel_rfl) (by kernel_rfl) (by exact fun _ _ _ h => h) (Or.inl ⟨by rfl, ?_⟩) (by assumption) ?_
      rotate_left 1
      · intro w hSw; (obtain ⟨q0, q1, q2⟩ := hSw); go_simp; (try with_reducible rfl)
      (try simp only [Act.put, List.setIfInBounds_toArray, List.set_cons_zero, List.set_cons_succ])
      refine wpAnyH_take (i := 1) (v := ?_) (by simp only [List.getElem?_toArray, List.getElem?_cons_succ, List.getElem?_cons_zero]; rfl) (by kernel_rfl) (by kernel_rfl) (by kernel_rfl) (by exact fun _ _ _ h => h) (Or.inl ⟨by rfl, ?_⟩) (by assumption) ?_
      rotate_left 1
      · intro w hSw; (obtain ⟨q0, q1, q2⟩ := hSw); go_simp; (try with_reducible rfl)
      (try simp only [Act.put, List.setIfInBounds_toArray, List.set_cons_zero, List.set_cons_succ])
      refine wpAnyH_take (i := 2) (v := ?_) (by simp only [List.getElem?_toArray, List.getElem?_cons_succ, List.getElem?_cons_zero]; rfl) (by kernel_rfl) (by kernel_rfl) (by kernel_rfl) (by exact fun _ _ _ h => h) (Or.inl ⟨by rfl, ?_⟩) (by assumption) ?_
      rotate_left 1
      · intro w hSw; (obtain ⟨q0, q1, q2⟩ := hSw); go_simp; (try with_reducible rfl)
      (try simp only [Act.put, List.setIfInBounds_toArray, List.set_cons_zero, List.set_cons_succ])
      refine wpAnyH_take (i := 3) (v := ?_) (by simp only [List.getElem?_toArray, List.getElem?_cons_succ, List.getElem?_cons_zero]; rfl) (by kernel_rfl) (by kernel_rfl) (by kernel_rfl) (by exact fun _ _ _ h => h) (Or.inl ⟨by rfl, ?_⟩) (by assumption) ?_
      rotate_left 1
      · intro w hSw; (obtain ⟨q0, q1, q2⟩ := hSw); go_simp; (try with_reducible rfl)
      (try simp only [Act.put, List.setIfInBounds_toArray, List.set_cons_zero, List.set_cons_succ])
      refine wpAnyH_take (i := 4) (v := ?_) (by simp only [List.getElem?_toArray, List.getElem?_cons_succ, List.getElem?_cons_zero]; rfl) (by kernel_rfl) (by kernel_rfl) (by kernel_rfl) (by exact fun _ _ _ h => h) (Or.inl ⟨by rfl, ?_⟩) (by assumption) ?_
      rotate_left 1
      · intro w hSw; (obtain ⟨q0, q1, q2⟩ := hSw); go_simp; (try with_reducible rfl)
      (try simp only [Act.put, List.setIfInBounds_toArray, List.set_cons_zero, List.set_cons_succ])
      refine wpAnyH_ready (rs := [5]) (by kernel_rfl) (by simp) ?_
      refine AllReadyH.cons (by simp only [List.getElem?_toArray, List.getElem?_cons_succ, List.getElem?_cons_zero]; rfl) (fun Kq hKq => ?_) AllReadyH.nil
      go_simp
      refine (without_any W.drew W.heap.size va ga vc gc VL s.ag (-1) (-1) (HSP.out.below (Below.refl _ W).drew) (HLG.out.1.below (Below.refl _ W).drew) HLG.out.2.1 (Nat.le_refl _) HALL.out HOK.out.cag).mono ?_
      rintro e w5 ⟨r, rfl, hr, hb⟩
      have hb0 := hb
      replace hb : Below W.heap.size W w5 := (Below.refl W.heap.size W).drew.trans hb
      have hK := (show (fun W : World => W.cell? ⟨w.heap.size, 0, none⟩ = some (.slice va VL.length vc) ∧ W.cell? ⟨C0, 0, none⟩ = some (.pointer (some ⟨B, 0, none⟩)) ∧ W.cell? ⟨B, 4, none⟩ = some (.slice ga s.ag.length gc)) w5 from ⟨cell_bel hHeld.1 (block_lt_of_cell hHeld.1) hb0, cell_bel hHeld.2.1 (block_lt_of_cell hHeld.2.1) hb0, cell_bel hHeld.2.2 (block_lt_of_cell hHeld.2.2) hb0⟩)
      have HD5 := Lib.hid ((hb.block D (Array.getElem?_eq_some_iff.1 HD.out).1).trans HD.out)
      have HB5 := Lib.hid (HB.out.trans (hb.mono HB.out.size))
      have HR := Lib.hid (hr.mono (show w.heap.size ≤ W.drew.heap.size from HB.out.size))
      clear hr hb hb0
      go_simp
      refine hKq.out _ _ (hK) (fun hHeld2 => ?_)
      clear hKq Kq hHeld
      (try simp only [Act.put, List.setIfInBounds_toArray, List.set_cons_zero, List.set_cons_succ])
      have hHeld := hHeld2
      clear hHeld2
      clear hK
      refine wpAnyH_take (i := 6) (v := ?_) (by simp only [List.getElem?_toArray, List.getElem?_cons_succ, List.getElem?_cons_zero]; rfl) (by kernel_rfl) (by kernel_rfl) (by kernel_rfl) (by exact fun _ _ _ h => h) (Or.inl ⟨by rfl, ?_⟩) (by assumption) ?_
      rotate_left 1
      · intro w hSw; (obtain ⟨q0, q1, q2⟩ := hSw); go_simp; (try with_reducible rfl)
      (try simp only [Act.put, List.setIfInBounds_toArray, List.set_cons_zero, List.set_cons_succ])
      refine wpAnyH_done (by kernel_rfl) ?_ _
      clear hHeld
      simp only [noPanic]
      go_wp2_with fail
      try rw [Exit.noGoto_ret]
      refine ret_marks rfl HD5.out ⟨_, rfl, ?_, below_take HB5.out (Nat.le_refl _) hD2⟩
      rw [hlo.out]
      exact HR.out.own (grownBy_putObj' w5 D _) (fun r e => by cases e; exact ⟨_, HD5.out, rfl⟩)
theorem sclost_any (B lb : Nat) (s : Sc) (m : Int) (w : World) (ok : s.Ok) (h : ScAt B lb s w) :
    Calls Try.prog 25 #[.pointer (some ⟨B, 0, none⟩), .int .i64 m] w fun e w' => ∃ v, e = .returned v ∧ OwnSp w' w.heap.size v (s.lost m) ∧ Below w.heap.size w w' := by
  have hb := (sgBel w (.cells #[.pointer (some ⟨B, 0, none⟩)] 42)).alloc (by simp) (.cells #[.int .i64 m] 3)
  have HU := Lib.hid (lost1_any (w.heap.size + 1) w.heap.size B lb s m ((w.alloc (.cells #[.pointer (some ⟨B, 0, none⟩)] 42)).alloc (.cells #[.int .i64 m] 3)) ok (At.new (W := w.alloc (.cells #[.pointer (some ⟨B, 0, none⟩)] 42)) (vs := #[.int .i64 m]) 3 (by simp) rfl).1 ((At.new (W := w) (vs := #[.pointer (some ⟨B, 0, none⟩)]) 42 rfl rfl).alloc (.cells #[.int .i64 m] 3)).1 (h.below hb))
  have HB := Lib.hid hb
  clear hb h
  go_enter Try.func25, Try.ntmps25
  go_wp2_with fail
  refine (unless_Lost _ _ _ _ HU.out).mono ?_
  rintro e w1 ⟨v, rfl, hO, hb⟩
  have HO := Lib.hid (hO.mono HB.out.size)
  have HB2 := Lib.hid (HB.out.trans (hb.mono HB.out.size))
  clear hO hb HB HU
  go_wp2_with fail
  go_ret
  exact ⟨v, rfl, HO.out, HB2.out⟩
end Go.Proofs.Ytncjeleabpodaaa
