/- ranges.Gaps. -/
import Derived.Test.YtncjeleabpodaaaRgCount
namespace Go.Proofs.Ytncjeleabpodaaa
open Go.RowKit Go.Shelf
attribute [local go_sem] Oper.semAt_some
theorem withL_one (a b : Int) : withL [(a, b)] = one a b := by
  unfold withL one
  by_cases h : a < b
  · rw [if_pos h, List.filter_cons_of_pos (by simpa using h)]; rfl
  · rw [if_neg h, List.filter_cons_of_neg (by simpa using h)]; rfl
theorem gapsF_drop {t at' : Int} {L : List Sp} {k : Nat} (h : k < L.length) : gapsF t at' (L.drop k) = if L[k].2 ≤ at' then gapsF t at' (L.drop (k + 1)) else if t ≤ L[k].1 then one at' t else one at' L[k].1 ++ gapsF t L[k].2 (L.drop (k + 1)) := by
  rw [List.drop_eq_getElem_cons h]; rfl
theorem one_le (a b : Int) : (one a b).length ≤ 1 := by unfold one; split <;> simp
/-- What the loop of Gaps keeps: the boxes of s (block N), out (M) and at (M + 1). -/
def gapC (N M : Nat) (s : Sp) (w : World) (outs : List Sp) (v : Value) (t : Int) (W : World) : Prop :=
  At N 0 (.int .i64 s.1) W ∧ At N 1 (.int .i64 s.2) W ∧ At M 0 v W ∧ At (M + 1) 0 (.int .i64 t) W ∧ OwnSp W (M + 2) v outs ∧ Below N w W
def gapI (N M : Nat) (s : Sp) (w : World) (L : List Sp) (k : Nat) (W : World) : Prop :=
  ∃ outs v t, gapC N M s w outs v t W ∧ outs.length ≤ k ∧ gapsF s.2 s.1 L = outs ++ gapsF s.2 t (L.drop k)
def gapX (N M : Nat) (s : Sp) (w : World) (L : List Sp) (c : Code) (k : Nat) (W : World) : Prop :=
  ∃ outs v t, gapC N M s w outs v t W ∧ outs.length ≤ k ∧ gapsF s.2 s.1 L = outs ++ one t s.2 ∧ c = .exit 0
theorem gapC_own {N M : Nat} {s : Sp} {w : World} {outs : List Sp} {v : Value} {t : Int} {B : Nat} (hN : N ≤ w.heap.size) (hB : N ≤ B) {A A' : World} {row : Option Nat} (h : gapC N M s w outs v t A) (hg : A.grownBy A' row)
    (hr : ∀ r, row = some r → B ≤ r ∧ ∃ o : Obj, A.heap[r]? = some o ∧ o.isCells = false) : gapC N M s w outs v t A' := by
  have hr2 := fun r e => (hr r e).2
  obtain ⟨h1, h2, h3, h4, h5, h6⟩ := h
  exact ⟨h1.own hg hr2, h2.own hg hr2, h3.own hg hr2, h4.own hg hr2, h5.own hg hr2, below_own h6 hg hr hN hB⟩
theorem gapI_own {N M : Nat} {s : Sp} {w : World} {L : List Sp} {B : Nat} (hN : N ≤ w.heap.size) (hB : N ≤ B) : OwnFrom B (gapI N M s w L) := fun _ _ _ _ ⟨outs, v, t, h, r⟩ hg hr => ⟨outs, v, t, gapC_own hN hB h hg hr, r⟩
theorem gapX_own {N M : Nat} {s : Sp} {w : World} {L : List Sp} {B : Nat} (hN : N ≤ w.heap.size) (hB : N ≤ B) (c : Code) : OwnFrom B (gapX N M s w L c) := fun _ _ _ _ ⟨outs, v, t, h, r⟩ hg hr => ⟨outs, v, t, gapC_own hN hB h hg hr, r⟩
theorem gapC_alloc {N M : Nat} {s : Sp} {w : World} {outs : List Sp} {v : Value} {t : Int} {W : World} (h : gapC N M s w outs v t W) (hN : N ≤ W.heap.size) (o : Obj) : gapC N M s w outs v t (W.alloc o) := by
  obtain ⟨h1, h2, h3, h4, h5, h6⟩ := h
  exact ⟨h1.alloc o, h2.alloc o, h3.alloc o, h4.alloc o, h5.alloc o, h6.alloc hN o⟩
/-- Behind a call of 'with', whose result is stored into out's box. -/
theorem gapC_with {N M : Nat} (hNM : N < M) {s : Sp} {w : World} {outs outs' : List Sp} {v v' : Value} {t : Int} {W W' : World} (h : gapC N M s w outs v t W) (hg : W.grownBy W' v.ownBlock) (ho : OwnSp W' (M + 2) v' outs') (hN : N ≤ w.heap.size) :
    gapC N M s w outs' v' t (W'.setCell ⟨M, 0, none⟩ v') := by
  obtain ⟨h1, h2, h3, h4, h5, h6⟩ := h
  have hne : ∀ k, k < M + 2 → v.ownBlock ≠ some k := fun k hk e => by have := (h5.lt k e).1; omega
  have hne' : v'.ownBlock ≠ some M := fun e => by have := (ho.lt M e).1; omega
  refine ⟨(h1.grown hg (hne _ (by omega))).ob _ (by omega), (h2.grown hg (hne _ (by omega))).ob _ (by omega), (h3.grown hg (hne _ (by omega))).set _, (h4.grown hg (hne _ (by omega))).ob _ (by omega), ho.setCell _ _ _ hne', ?_⟩
  refine (h6.trans (grown_below hg ?_ (fun k e => ?_))).setCell (p := ⟨M, 0, none⟩) (by show N ≤ M; omega) _
  · have := h6.size; omega
  · have := (h5.lt k e).1; omega
theorem gapC_at {N M : Nat} (hNM : N < M) {s : Sp} {w : World} {outs : List Sp} {v : Value} {t : Int} {W : World} (h : gapC N M s w outs v t W) (u : Int) : gapC N M s w outs v u (W.setCell ⟨M + 1, 0, none⟩ (.int .i64 u)) := by
  obtain ⟨h1, h2, h3, h4, h5, h6⟩ := h
  have hne : v.ownBlock ≠ some (M + 1) := fun e => by have := (h5.lt _ e).1; omega
  exact ⟨h1.ob _ (by omega), h2.ob _ (by omega), h3.ob _ (by omega), h4.set _, h5.setCell _ _ _ hne, h6.setCell (p := ⟨M + 1, 0, none⟩) (by show N ≤ M + 1; omega) _⟩
set_option maxRecDepth 100000 in
set_option maxHeartbeats 1000000 in
theorem gaps_any (w : World) (n₀ : Nat) (a : Option Addr) (cap : Nat) (L : List Sp) (s : Sp) (hc : SpAt w n₀ a L) (hn : n₀ ≤ w.heap.size) :
    Calls Try.prog 27 #[.slice a L.length cap, .agg #[.int .i64 s.1, .int .i64 s.2]] w fun e w' => ∃ v, e = .returned v ∧ OwnSp w' w.heap.size v (gapsL L s) ∧ Below w.heap.size w w' := by
  obtain ⟨s1, s2⟩ := s
  have hb := (((Below.refl w.heap.size w).alloc (Nat.le_refl _) (.cells #[.int .i64 s1, .int .i64 s2] 51)).alloc (by simp) (.cells #[.slice a L.length cap] 101)).alloc (by simp; omega) (.cells #[.slice a L.length cap] 101)
  have HB := Lib.hid hb
  have HS := Lib.hid (hc.below (hb.mono hn))
  have hsm := hc.small
  clear hb hc
  refine (callsIn_wide (n := 4)).1 ?_
  refine callsIn_of_wp_marks Try.func27 rfl trivial ?_ rfl
  simp only [Try.ntmps27, List.size_toArray, List.length_cons, List.length_nil, Nat.reduceAdd, Nat.reduceSub, Array.replicate_succ, Array.replicate_zero, List.push_toArray, List.append_toArray, List.nil_append, List.cons_append]
  refine wpIn_wide.2 ?_
  go_wp2_with fail
  go_step3
  go_wp2_with fail
  refine (of_any _ _ _ _ _ rfl).mono ?_
  rintro e w1 ⟨rfl, rfl⟩
  go_wp2_with fail
  refine (takes_any _ n₀ a cap L (s1, s2) HS.out (by have := HB.out.size; omega)).mono ?_
  rintro e w2 ⟨rfl, hb2⟩
  have hA0 : At w.heap.size 0 (.int .i64 s1) w2 := ((((At.new (W := w) (vs := #[.int .i64 s1, .int .i64 s2]) 51 rfl rfl).alloc _).alloc _).below hb2 (by simp; omega))
  have hA1 : At w.heap.size 1 (.int .i64 s2) w2 := ((((At.new (W := w) (vs := #[.int .i64 s1, .int .i64 s2]) 51 rfl rfl).alloc _).alloc _).below hb2 (by simp; omega))
  have hz : At (w.heap.size + 1 + 1) 0 (.slice a L.length cap) w2 := ((At.new (W := (w.alloc (.cells #[.int .i64 s1, .int .i64 s2] 51)).alloc (.cells #[.slice a L.length cap] 101)) (vs := #[.slice a L.length cap]) 101 (by simp) rfl).below hb2 (by simp))
  have HS2 := Lib.hid (HS.out.below (hb2.mono (by have := HB.out.size; omega)))
  have HB2 := Lib.hid (HB.out.trans (hb2.mono HB.out.size))
  have hsz := hb2.size
  simp at hsz
  clear hb2 HB HS
  cases htk : takesB L (s1, s2) with
  | false =>
    go_wp2_with fail
    rw [Exit.noGoto_ret]
    refine ret_plain rfl ⟨_, rfl, ?_, HB2.out⟩
    unfold gapsL
    rw [htk]
    exact OwnSp.nil _ _
  | true =>
    have q0 := (hA0.alloc (.cells #[.slice none 0 0] 29)).1
    have q1 := ((hz.alloc (.cells #[.slice none 0 0] 29)).alloc (.cells #[.int .i64 s1] 3)).1
    go_wp2_with fail
    go_step3
    go_wp2_with fail
    refine (wpIn_wide (n := 4)).1 ?_
    refine wp_each (n₀ := n₀) (by omega) rfl rfl (HS2.out.below (((Below.refl n₀ w2).alloc (by omega) _).alloc (by simp; omega) _)) (by simp; omega)
      (gapI w.heap.size w2.heap.size (s1, s2) w L) (gapX w.heap.size w2.heap.size (s1, s2) w L) (gapI_own (Nat.le_refl _) (by simp; omega)) (gapX_own (Nat.le_refl _) (by simp; omega)) ?start ?round ?done ?stop
    case start =>
      refine ⟨[], .slice none 0 0, s1, ⟨(hA0.alloc _).alloc _, (hA1.alloc _).alloc _, (At.new _ rfl rfl).alloc _, At.new _ (by simp) rfl, OwnSp.nil _ _, (HB2.out.alloc (by omega) _).alloc (by simp; omega) _⟩, Nat.zero_le _, rfl⟩
    case round =>
      rintro l k hk W hl ⟨outs, v, t, hC, hlen, hgap⟩
      have hWs : w2.heap.size + 1 < W.heap.size := hC.2.2.2.1.lt
      have HV := Lib.hid (hC.2.2.2.2.1.lt)
      have HI := Lib.hid hC
      have HG := Lib.hid hgap
      have HD := Lib.hid (gapsF_drop (t := s2) (at' := t) hk)
      obtain ⟨va, vc, rfl, -⟩ := hC.2.2.2.2.1.at (by omega)
      clear hC hgap q0 q1 hz hA0 hA1
      gi_wp2
      refine ⟨(KeepsOthers.alloc _ _).from _, (Below.refl n₀ W).alloc (by omega) _, fun _ W2 => gapC w.heap.size w2.heap.size (s1, s2) w outs (.slice va outs.length vc) t W2 ∧ At W.heap.size 0 (.int .i64 L[k].1) W2 ∧ At W.heap.size 1 (.int .i64 L[k].2) W2, ?_, ⟨gapC_alloc HI.out (by omega) _, At.new _ rfl rfl, At.new _ rfl rfl⟩, ?_⟩
      · intro _ A A' row h hg hr
        exact ⟨gapC_own (B := _) (Nat.le_refl _) (by first | omega | (simp; omega)) h.1 hg hr, h.2.1.own hg (fun r e => (hr r e).2), h.2.2.own hg (fun r e => (hr r e).2)⟩
      · rintro W2 ⟨hC, ⟨x0, f0⟩, ⟨x1, f1⟩⟩
        obtain ⟨⟨d0, e0⟩, ⟨d1, e1⟩, ⟨d2, e2⟩, ⟨d3, e3⟩, -⟩ := id hC
        have HC := Lib.hid hC
        clear HI hC
        by_cases c1 : L[k].2 ≤ t
        · gi_wp2_with fail
          exact ⟨KeepsFrom.refl _ _, Below.refl _ _, outs, _, t, HC.out, by omega, by rw [HG.out, HD.out, if_pos c1]⟩
        · have HN1 := Lib.hid (Int.not_le.1 c1)
          by_cases c2 : s2 ≤ L[k].1
          · gi_wp2_with fail
            exact ⟨KeepsFrom.refl _ _, outs, _, t, HC.out, hlen, by rw [HG.out, HD.out, if_neg (Int.not_le.2 HN1.out), if_pos c2], rfl⟩
          · have HN2 := Lib.hid (Int.not_le.1 c2)
            gi_wp2_with fail
            have hW2 : w2.heap.size + 1 < W2.heap.size := HC.out.2.2.2.1.lt
            have HAL := Lib.hid (fun o => gapC_alloc HC.out (by omega) o)
            refine ⟨trivial, (CallsIn.inRound l (callsIn_wide.2 (with_any (W2.alloc (.cells #[.int .i64 t, .int .i64 L[k].1] 51)) (w2.heap.size + 2) (W2.heap.size + 1) (.slice va outs.length vc) outs _ _ [(t, L[k].1)] (HAL.out _).2.2.2.2.1 (by omega) (by simp; omega) ⟨by simp, fun _ => ⟨W2.heap.size, 0, rfl, by omega, fun i hi => ?_⟩⟩ (by simp) ?_))).mono ?_⟩
            · obtain rfl : i = 0 := by simpa using hi
              simp
            · intro _ ad e
              cases e
              intro e
              have := (HC.out.2.2.2.2.1.lt _ e).2
              simp at this
            · rintro e W3 ⟨v', rfl, ho, hg, -⟩
              rw [withL_one] at ho
              have hol := one_le t L[k].1
              obtain ⟨va', vc', hv', -⟩ := ho.at (by rw [List.length_append]; omega)
              have hC3 := gapC_with (by omega) (HAL.out (.cells #[.int .i64 t, .int .i64 L[k].1] 51)) hg ho (Nat.le_refl _)
              have hne : ∀ b, b < w2.heap.size + 2 ∨ W.heap.size ≤ b → (Value.slice va outs.length vc).ownBlock ≠ some b := fun b hb e => by have := HV.out _ e; omega
              obtain ⟨y1, -⟩ := ((show At W.heap.size 1 (.int .i64 L[k].2) W2 from ⟨x1, f1⟩).alloc (.cells #[.int .i64 t, .int .i64 L[k].1] 51)).grown hg (hne _ (by omega))
              obtain ⟨z0, g0⟩ := (HAL.out (.cells #[.int .i64 t, .int .i64 L[k].1] 51)).2.2.1.grown hg (hne _ (by omega))
              obtain ⟨z1, g1⟩ := (HAL.out (.cells #[.int .i64 t, .int .i64 L[k].1] 51)).2.2.2.1.grown hg (hne _ (by omega))
              have hk3 := ((KeepsOthers.alloc W2 (.cells #[.int .i64 t, .int .i64 L[k].1] 51)).trans (keeps_own (HAL.out _).2.2.2.2.1 hg))
              have hb3 : Below n₀ W2 W3 := ((Below.refl n₀ W2).alloc (by omega) _).trans (grown_below hg (by simp; omega) (fun b e => by have := HV.out _ e; omega))
              have HK3 := Lib.hid hk3
              have HB3 := Lib.hid hb3
              have HC4 := Lib.hid (gapC_at (by omega) hC3 L[k].2)
              have hlen' : (outs ++ one t L[k].1).length ≤ k + 1 := by rw [List.length_append]; omega
              clear hC3 hk3 hb3 hg hne HAL HC HV d0 d1 d2 d3 e0 e1 e2 e3 x0 x1 f0 f1 ho
              generalize (outs ++ one t L[k].1).length = nl at hv'
              subst hv'
              gi_wp2_with fail
              refine ⟨(HK3.out.trans ((KeepsOthers.setCell _ _ _).trans (KeepsOthers.setCell _ _ _))).from _, (HB3.out.setCell (p := ⟨w2.heap.size, 0, none⟩) (by show n₀ ≤ w2.heap.size; omega) _).setCell (p := ⟨w2.heap.size + 1, 0, none⟩) (by show n₀ ≤ w2.heap.size + 1; omega) _, _, _, _, HC4.out, hlen', ?_⟩
              rw [HG.out, HD.out, if_neg (Int.not_le.2 HN1.out), if_neg (Int.not_le.2 HN2.out), List.append_assoc]
    case done =>
      rintro D W hD ⟨outs, v, t, hC, hlen, hgap⟩ hDf
      rw [List.drop_length] at hgap
      have hD2 : w.heap.size ≤ D := by simp at hD; omega
      obtain ⟨va, vc, rfl, -⟩ := hC.2.2.2.2.1.at (by omega)
      obtain ⟨⟨d0, e0⟩, ⟨d1, e1⟩, ⟨d2, e2⟩, ⟨d3, e3⟩, -⟩ := id hC
      have HC := Lib.hid hC
      have HG := Lib.hid hgap
      have HDF := Lib.hid hDf
      have HAL := Lib.hid (fun o => gapC_alloc hC (by have := hC.1.lt; omega) o)
      have hW2 : w2.heap.size + 1 < W.heap.size := hC.2.2.2.1.lt
      clear hC hgap hDf hD q0 q1 hz hA0 hA1
      go_wp2_with fail
      refine (with_any (W.alloc (.cells #[.int .i64 t, .int .i64 s2] 51)) (w2.heap.size + 2) (W.heap.size + 1) (.slice va outs.length vc) outs _ _ [(t, s2)] (HAL.out _).2.2.2.2.1 (by omega) (by simp; omega) ⟨by simp, fun _ => ⟨W.heap.size, 0, rfl, by omega, fun i hi => ?_⟩⟩ (by simp) ?_).mono ?_
      · obtain rfl : i = 0 := by simpa using hi
        simp
      · intro _ ad e
        cases e
        intro e
        have := (HC.out.2.2.2.2.1.lt _ e).2
        simp at this
      · rintro e W3 ⟨v', rfl, ho, hg, -⟩
        rw [withL_one] at ho
        have hD3 := ((KeepsOthers.alloc W (.cells #[.int .i64 t, .int .i64 s2] 51)).trans (keeps_own (HAL.out _).2.2.2.2.1 hg)).same D _ HDF.out rfl
        have hb3 : Below w.heap.size w W3 := (HAL.out _).2.2.2.2.2.trans (grown_below hg (by simp; omega) (fun b e => by have := (HC.out.2.2.2.2.1.lt _ e).1; omega))
        have HD3 := Lib.hid hD3
        have HB3 := Lib.hid hb3
        have HO := Lib.hid ho
        clear hD3 hb3 ho hg d0 d1 d2 d3 e0 e1 e2 e3
        go_wp2_with fail
        rw [Exit.noGoto_ret]
        refine ret_marks rfl HD3.out ⟨_, rfl, ?_, below_take HB3.out (Nat.le_refl _) hD2⟩
        unfold gapsL
        rw [if_pos htk, HG.out]
        exact (HO.out.own (grownBy_putObj' W3 D _) (fun r e => by cases e; exact ⟨_, HD3.out, rfl⟩)).mono (by omega)
    case stop =>
      rintro D c k W hD hk ⟨outs, v, t, hC, hlen, hgap, rfl⟩ hDf
      have hD2 : w.heap.size ≤ D := by simp at hD; omega
      obtain ⟨va, vc, rfl, -⟩ := hC.2.2.2.2.1.at (by omega)
      obtain ⟨⟨d0, e0⟩, ⟨d1, e1⟩, ⟨d2, e2⟩, ⟨d3, e3⟩, -⟩ := id hC
      have HC := Lib.hid hC
      have HG := Lib.hid hgap
      have HDF := Lib.hid hDf
      have HAL := Lib.hid (fun o => gapC_alloc hC (by have := hC.1.lt; omega) o)
      have hW2 : w2.heap.size + 1 < W.heap.size := hC.2.2.2.1.lt
      clear hC hgap hDf hD q0 q1 hz hA0 hA1
      refine wpIn_wide.2 ?_
      go_wp2_with fail
      refine (with_any (W.alloc (.cells #[.int .i64 t, .int .i64 s2] 51)) (w2.heap.size + 2) (W.heap.size + 1) (.slice va outs.length vc) outs _ _ [(t, s2)] (HAL.out _).2.2.2.2.1 (by omega) (by simp; omega) ⟨by simp, fun _ => ⟨W.heap.size, 0, rfl, by omega, fun i hi => ?_⟩⟩ (by simp) ?_).mono ?_
      · obtain rfl : i = 0 := by simpa using hi
        simp
      · intro _ ad e
        cases e
        intro e
        have := (HC.out.2.2.2.2.1.lt _ e).2
        simp at this
      · rintro e W3 ⟨v', rfl, ho, hg, -⟩
        rw [withL_one] at ho
        have hD3 := ((KeepsOthers.alloc W (.cells #[.int .i64 t, .int .i64 s2] 51)).trans (keeps_own (HAL.out _).2.2.2.2.1 hg)).same D _ HDF.out rfl
        have hb3 : Below w.heap.size w W3 := (HAL.out _).2.2.2.2.2.trans (grown_below hg (by simp; omega) (fun b e => by have := (HC.out.2.2.2.2.1.lt _ e).1; omega))
        have HD3 := Lib.hid hD3
        have HB3 := Lib.hid hb3
        have HO := Lib.hid ho
        clear hD3 hb3 ho hg d0 d1 d2 d3 e0 e1 e2 e3
        go_wp2_with fail
        rw [Exit.noGoto_ret]
        refine ret_marks rfl HD3.out ⟨_, rfl, ?_, below_take HB3.out (Nat.le_refl _) hD2⟩
        unfold gapsL
        rw [if_pos htk, HG.out]
        exact (HO.out.own (grownBy_putObj' W3 D _) (fun r e => by cases e; exact ⟨_, HD3.out, rfl⟩)).mono (by omega)
end Go.Proofs.Ytncjeleabpodaaa
