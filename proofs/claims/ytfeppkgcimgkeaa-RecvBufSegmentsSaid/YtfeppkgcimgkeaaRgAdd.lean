/- ranges.Add. -/
import Derived.Test.YtfeppkgcimgkeaaRgGaps
import Derived.Deep.RegionHeld
namespace Go.Proofs.Ytfeppkgcimgkeaa
open Go.RowKit Go.Shelf
attribute [local go_sem] Oper.semAt_some
theorem addF_drop {s : Sp} {L : List Sp} {k : Nat} (h : k < L.length) : addF s (L.drop k) = if L[k].2 < s.1 then L[k] :: addF s (L.drop (k + 1)) else if s.2 < L[k].1 then s :: L[k] :: L.drop (k + 1) else addF (min s.1 L[k].1, max s.2 L[k].2) (L.drop (k + 1)) := by
  rw [List.drop_eq_getElem_cons h]; rfl
theorem withL_canon {e : Int} {L : List Sp} (h : canonF e L = true) : withL L = L := by
  unfold withL
  rw [List.filter_eq_self]
  intro x hx
  obtain ⟨k, hk, rfl⟩ := List.mem_iff_getElem.1 hx
  simpa using (canonF_nth h hk).2.1
theorem canonF_drop2 {e : Int} {L : List Sp} (h : canonF e L = true) (k : Nat) : ∃ e', canonF e' (L.drop k) = true := by
  induction L generalizing e k with
  | nil => exact ⟨0, by simp; rfl⟩
  | cons x L ih =>
    cases k with
    | zero => exact ⟨e, h⟩
    | succ k => rw [canonF_cons] at h; exact ih h.2 k
/-- What the loop of Add keeps: the boxes of s (block N), out (Q) and rest (Q + 1). -/
def addC (N M Q : Nat) (w : World) (y : Sp) (outs : List Sp) (v : Value) (r : Nat) (W : World) : Prop :=
  At N 0 (.int .i64 y.1) W ∧ At N 1 (.int .i64 y.2) W ∧ At Q 0 v W ∧ At (Q + 1) 0 (.int .i64 (r : Int)) W ∧ OwnSp W M v outs ∧ Below N w W ∧ (∀ b, v.ownBlock = some b → b < Q ∨ Q + 2 ≤ b) ∧ y.1 < y.2
def addI (N M Q : Nat) (w : World) (s : Sp) (L : List Sp) (k : Nat) (W : World) : Prop :=
  ∃ y outs v, addC N M Q w y outs v L.length W ∧ outs.length ≤ k ∧ addF s L = outs ++ addF y (L.drop k)
def addX (N M Q : Nat) (w : World) (s : Sp) (L : List Sp) (c : Code) (k : Nat) (W : World) : Prop :=
  ∃ y outs v, addC N M Q w y outs v k W ∧ outs.length ≤ k ∧ addF s L = outs ++ y :: L.drop k ∧ c = .exit 0
theorem addC_own {N M Q : Nat} {w : World} {y : Sp} {outs : List Sp} {v : Value} {r : Nat} {B : Nat} (hN : N ≤ w.heap.size) (hB : N ≤ B) {A A' : World} {row : Option Nat} (h : addC N M Q w y outs v r A) (hg : A.grownBy A' row)
    (hr : ∀ r, row = some r → B ≤ r ∧ ∃ o : Obj, A.heap[r]? = some o ∧ o.isCells = false) : addC N M Q w y outs v r A' := by
  have hr2 := fun r e => (hr r e).2
  obtain ⟨h1, h2, h3, h4, h5, h6, h7⟩ := h
  exact ⟨h1.own hg hr2, h2.own hg hr2, h3.own hg hr2, h4.own hg hr2, h5.own hg hr2, below_own h6 hg hr hN hB, h7⟩
theorem addI_own {N M Q : Nat} {s : Sp} {w : World} {L : List Sp} {B : Nat} (hN : N ≤ w.heap.size) (hB : N ≤ B) : OwnFrom B (addI N M Q w s L) := fun _ _ _ _ ⟨y, outs, v, h, r⟩ hg hr => ⟨y, outs, v, addC_own hN hB h hg hr, r⟩
theorem addX_own {N M Q : Nat} {s : Sp} {w : World} {L : List Sp} {B : Nat} (hN : N ≤ w.heap.size) (hB : N ≤ B) (c : Code) : OwnFrom B (addX N M Q w s L c) := fun _ _ _ _ ⟨y, outs, v, h, r⟩ hg hr => ⟨y, outs, v, addC_own hN hB h hg hr, r⟩
theorem addC_alloc {N M Q : Nat} {w : World} {y : Sp} {outs : List Sp} {v : Value} {r : Nat} {W : World} (h : addC N M Q w y outs v r W) (hN : N ≤ W.heap.size) (o : Obj) : addC N M Q w y outs v r (W.alloc o) := by
  obtain ⟨h1, h2, h3, h4, h5, h6, h7⟩ := h
  exact ⟨h1.alloc o, h2.alloc o, h3.alloc o, h4.alloc o, h5.alloc o, h6.alloc hN o, h7⟩
/-- Behind an append, whose result is stored into out's box. -/
theorem addC_app {N M Q : Nat} (hNM : N < M) (hMQ : M < Q) {w : World} {y : Sp} {outs outs' : List Sp} {v v' : Value} {r : Nat} {W W' : World} (h : addC N M Q w y outs v r W) (hg : W.grownBy W' v.ownBlock) (ho : OwnSp W' M v' outs')
    (hb : v'.ownBlock = v.ownBlock ∨ ∃ k, v'.ownBlock = some k ∧ W.heap.size ≤ k) (hN : N ≤ w.heap.size) :
    addC N M Q w y outs' v' r (W'.setCell ⟨Q, 0, none⟩ v') := by
  obtain ⟨h1, h2, h3, h4, h5, h6, h7, h8⟩ := h
  have hne : ∀ k, k < M ∨ k = Q ∨ k = Q + 1 → v.ownBlock ≠ some k := fun k hk e => by have := (h5.lt k e).1; have := h7 k e; omega
  have h7' : ∀ b, v'.ownBlock = some b → b < Q ∨ Q + 2 ≤ b := by
    intro b e
    rcases hb with hb | ⟨k, hb, hk⟩
    · rw [hb] at e; exact h7 b e
    · rw [hb] at e; cases e; have := h4.lt; omega
  have hne' : v'.ownBlock ≠ some Q := fun e => by have := h7' Q e; omega
  refine ⟨(h1.grown hg (hne _ (by omega))).ob _ (by omega), (h2.grown hg (hne _ (by omega))).ob _ (by omega), (h3.grown hg (hne _ (by omega))).set _, (h4.grown hg (hne _ (by omega))).ob _ (by omega), ho.setCell _ _ _ hne', ?_, h7', h8⟩
  refine (h6.trans (grown_below hg ?_ (fun k e => ?_))).setCell (p := ⟨Q, 0, none⟩) (by show N ≤ Q; omega) _
  · have := h6.size; omega
  · have := (h5.lt k e).1; omega
theorem addC_rest {N M Q : Nat} (hNM : N < M) (hMQ : M < Q) {w : World} {y : Sp} {outs : List Sp} {v : Value} {r : Nat} {W : World} (h : addC N M Q w y outs v r W) (u : Nat) : addC N M Q w y outs v u (W.setCell ⟨Q + 1, 0, none⟩ (.int .i64 (u : Int))) := by
  obtain ⟨h1, h2, h3, h4, h5, h6, h7, h8⟩ := h
  have hne : v.ownBlock ≠ some (Q + 1) := fun e => by have := h7 _ e; omega
  exact ⟨h1.ob _ (by omega), h2.ob _ (by omega), h3.ob _ (by omega), h4.set _, h5.setCell _ _ _ hne, h6.setCell (p := ⟨Q + 1, 0, none⟩) (by show N ≤ Q + 1; omega) _, h7, h8⟩
theorem addC_s {N M Q : Nat} (hNM : N < M) (hMQ : M < Q) {w : World} {y : Sp} {outs : List Sp} {v : Value} {r : Nat} {W : World} (h : addC N M Q w y outs v r W) (z : Sp) (hz : z.1 < z.2) : addC N M Q w z outs v r ((W.setCell ⟨N, 0, none⟩ (.int .i64 z.1)).setCell ⟨N, 1, none⟩ (.int .i64 z.2)) := by
  obtain ⟨h1, h2, h3, h4, h5, h6, h7, h8⟩ := h
  have hne : v.ownBlock ≠ some N := fun e => by have := (h5.lt _ e).1; omega
  exact ⟨(h1.set _).other _ _ (by simp), (h2.other _ _ (by simp)).set _, (h3.ob _ (by omega)).ob _ (by omega), (h4.ob _ (by omega)).ob _ (by omega), (h5.setCell _ _ _ hne).setCell _ _ _ hne, (h6.setCell (p := ⟨N, 0, none⟩) (Nat.le_refl _) _).setCell (p := ⟨N, 1, none⟩) (Nat.le_refl _) _, h7, hz⟩
theorem addC_drew {N M Q : Nat} {w : World} {y : Sp} {outs : List Sp} {v : Value} {r : Nat} {W : World} (h : addC N M Q w y outs v r W) : addC N M Q w y outs v r W.drew := by
  obtain ⟨h1, h2, h3, h4, h5, h6, h7⟩ := h
  exact ⟨h1, h2, h3, h4, h5, h6.drew, h7⟩
theorem SpAt.drop {w : World} {n₀ : Nat} {a : Option Addr} {L : List Sp} (h : SpAt w n₀ a L) {cap : Nat} (hcap : L.length ≤ cap) (k : Nat) : SpAt w n₀ (if cap = k then a else Option.map (fun x => x.add (k * 2)) a) (L.drop k) := by
  refine ⟨by rw [List.length_drop]; have := h.small; omega, fun hl => ?_⟩
  rw [List.length_drop] at hl
  obtain ⟨b, off, rfl, hb, hc⟩ := h.cells (by omega)
  rw [if_neg (by omega), Option.map_some, Addr.add_lit]
  refine ⟨b, off + k * 2, rfl, hb, fun i hi => ?_⟩
  rw [List.length_drop] at hi
  obtain ⟨c0, c1⟩ := hc (k + i) (by omega)
  rw [List.getElem_drop, show off + k * 2 + i * 2 = off + (k + i) * 2 by omega]
  exact ⟨c0, c1⟩
theorem with_len (w : World) (base n₀ : Nat) (v : Value) (L : List Sp) (a : Option Addr) (cap : Nat) (ps : List Sp) (hv : OwnSp w base v L) (hL : L.length ≤ 2199023255552) (hbase : base ≤ w.heap.size)
    (hc : SpAt w n₀ a ps) (hn : n₀ ≤ w.heap.size) (hne : 0 < ps.length → ∀ ad, a = some ad → v.ownBlock ≠ some ad.block) (n : Nat) (hnl : n = ps.length) :
    Calls Try.prog 49 #[v, .slice a n cap] w fun e w' => ∃ v', e = .returned v' ∧ OwnSp w' base v' (L ++ withL ps) ∧ w.grownBy w' v.ownBlock ∧ (v'.ownBlock = v.ownBlock ∨ ∃ k, v'.ownBlock = some k ∧ w.heap.size ≤ k) := by
  subst hnl
  exact with_any w base n₀ v L a cap ps hv hL hbase hc hn hne
/-- A slice of one span, just made. -/
theorem sp_one {W : World} (a b : Int) {n₀ : Nat} (h : W.heap.size + 1 ≤ n₀) : SpAt (W.alloc (.cells #[.int .i64 a, .int .i64 b] 51)) n₀ (some ⟨W.heap.size, 0, none⟩) [(a, b)] :=
  ⟨by simp, fun _ => ⟨W.heap.size, 0, rfl, by omega, fun i hi => by
    obtain rfl : i = 0 := (by simpa using hi)
    simp⟩⟩
theorem below_of {n₀ : Nat} {w a b : World} (hn : n₀ ≤ w.heap.size) (h : Below w.heap.size w a) (k : Below w.heap.size w b) (hs : a.heap.size ≤ b.heap.size) : Below n₀ a b :=
  ⟨k.os.trans h.os.symm, k.tape.trans h.tape.symm, k.output.trans h.output.symm, hs, fun i hi => (k.block i (by omega)).trans (h.block i (by omega)).symm⟩
set_option maxRecDepth 100000 in
set_option maxHeartbeats 1000000 in
theorem add_any (w : World) (n₀ : Nat) (a : Option Addr) (cap : Nat) (L : List Sp) (s : Sp) (hc : SpAt w n₀ a L) (hn : n₀ ≤ w.heap.size) (hcap : L.length ≤ cap) :
    Calls Try.prog 25 #[.slice a L.length cap, .agg #[.int .i64 s.1, .int .i64 s.2]] w fun e w' => ∃ v, e = .returned v ∧ OwnSp w' w.heap.size v (addL L s) ∧ Below w.heap.size w w' := by
  obtain ⟨s1, s2⟩ := s
  have hb := (((Below.refl w.heap.size w).alloc (Nat.le_refl _) (.cells #[.int .i64 s1, .int .i64 s2] 51)).alloc (by simp) (.cells #[.slice a L.length cap] 77)).alloc (by simp; omega) (.cells #[.slice a L.length cap] 77)
  have HB := Lib.hid hb
  have HS := Lib.hid (hc.below (hb.mono hn))
  have hsm := hc.small
  clear hb hc
  refine (callsIn_wide (n := 4)).1 ?_
  refine callsIn_of_wp_marks Try.func25 rfl trivial ?_ rfl
  simp only [Try.ntmps25, List.size_toArray, List.length_cons, List.length_nil, Nat.reduceAdd, Nat.reduceSub, Array.replicate_succ, Array.replicate_zero, List.push_toArray, List.append_toArray, List.nil_append, List.cons_append]
  refine wpIn_wide.2 ?_
  go_wp2_with fail
  go_step3
  go_wp2_with fail
  refine (of_any _ _ _ _ _ rfl).mono ?_
  rintro e w1 ⟨rfl, rfl⟩
  go_wp2_with fail
  refine (takes_any _ n₀ a cap L (s1, s2) HS.out (by have := HB.out.size; omega)).mono ?_
  rintro e w2 ⟨rfl, hb2⟩
  have hA0 : At w.heap.size 0 (.int .i64 s1) w2 := ((((At.new (W := w) (vs := #[.int .i64 s1, .int .i64 s2]) 51 rfl rfl).alloc _).alloc _).below hb2 (by simp; omega))
  have hA1 : At w.heap.size 1 (.int .i64 s2) w2 := ((((At.new (W := w) (vs := #[.int .i64 s1, .int .i64 s2]) 51 rfl rfl).alloc _).alloc _).below hb2 (by simp; omega))
  have hz : At (w.heap.size + 1 + 1) 0 (.slice a L.length cap) w2 := ((At.new (W := (w.alloc (.cells #[.int .i64 s1, .int .i64 s2] 51)).alloc (.cells #[.slice a L.length cap] 77)) (vs := #[.slice a L.length cap]) 77 (by simp) rfl).below hb2 (by simp))
  have HS2 := Lib.hid (HS.out.below (hb2.mono (by have := HB.out.size; omega)))
  have HB2 := Lib.hid (HB.out.trans (hb2.mono HB.out.size))
  have hsz := hb2.size
  simp at hsz
  clear hb2 HB HS
  cases htk : takesB L (s1, s2) with
  | false =>
    go_wp2_with fail
    rw [Exit.noGoto_ret]
    refine ret_plain rfl ⟨_, rfl, ?_, HB2.out⟩
    unfold addL
    rw [htk]
    exact OwnSp.nil _ _
  | true =>
    obtain ⟨i0, hi, hz0, hz1, hz2⟩ := info_parts spanInfo
    have hLb : ¬ 9223372036854775807 < L.length + 1 := by omega
    go_wp2_with (first | (at_make; refine wpList_make_own _ rfl _ _ _ rfl w2.heap.size 51 i0 _ 2 Try.underlying46 hi hz0 hz1 _ _ _ (L.length + 1) rfl rfl (by omega) (by rw [hz2]; omega) (by unfold maxLen; omega) (Nat.le_refl _) ?_))
    intro w3 hown3 hgr3
    have hlt3 := World.ownsRow.lt hown3 w2.heap.size rfl
    have hown3' : OwnSp w3 w2.heap.size (.slice (some ⟨w2.heap.size, 0, none⟩) 0 (L.length + 1)) [] := hown3
    have hs3 := hgr3.size
    have hA0' := hA0.grown hgr3 (by simp)
    have hA1' := hA1.grown hgr3 (by simp)
    have hz' := hz.grown hgr3 (by simp)
    have HS3 := Lib.hid (HS2.out.grown hgr3 (by omega) (by simp))
    have HB3 := Lib.hid (HB2.out.trans (grown_below hgr3 (by omega) (fun k e => by cases e)))
    have HO3 := Lib.hid hown3'
    clear hown3 hown3' hgr3 HS2 HB2 hA0 hA1 hz
    have q1 := ((hz'.alloc (.cells #[.slice (some ⟨w2.heap.size, 0, none⟩) 0 (L.length + 1)] 46)).alloc (.cells #[.int .i64 L.length] 3)).1
    have HA0 := Lib.hid hA0'
    have HA1 := Lib.hid hA1'
    clear hA0' hA1' hz'
    go_wp2_with fail
    go_step3
    go_wp2_with fail
    have hNM : w.heap.size < w2.heap.size := by omega
    have hMQ : w2.heap.size < w3.heap.size := by omega
    refine (wpIn_wide (n := 4)).1 ?_
    refine wp_each (n₀ := n₀) (by omega) rfl rfl (HS3.out.below (((Below.refl n₀ w3).alloc (by omega) _).alloc (by simp; omega) _)) (by simp; omega)
      (addI w.heap.size w2.heap.size w3.heap.size w (s1, s2) L) (addX w.heap.size w2.heap.size w3.heap.size w (s1, s2) L) (addI_own (Nat.le_refl _) (by simp; omega)) (addX_own (Nat.le_refl _) (by simp; omega)) ?start ?round ?done ?stop
    case start =>
      refine ⟨(s1, s2), [], _, ⟨(HA0.out.alloc _).alloc _, (HA1.out.alloc _).alloc _, (At.new _ rfl rfl).alloc _, At.new _ (by simp) rfl, (HO3.out.alloc _).alloc _, (HB3.out.alloc (by omega) _).alloc (by simp; omega) _, fun b e => by cases e; exact .inl hlt3.2, (takesB_iff.1 htk).2.2.1⟩, Nat.zero_le _, rfl⟩
    case round =>
      rintro l k hk W hl ⟨⟨y1, y2⟩, outs, v, hC, hlen, hadd⟩
      have hWs : w3.heap.size + 1 < W.heap.size := hC.2.2.2.1.lt
      have HV := Lib.hid (hC.2.2.2.2.1.lt)
      have HV7 := Lib.hid hC.2.2.2.2.2.2.1
      have hy : y1 < y2 := hC.2.2.2.2.2.2.2
      have HI := Lib.hid hC
      have HG := Lib.hid hadd
      have HD := Lib.hid (addF_drop (s := (y1, y2)) hk)
      obtain ⟨va, vc, rfl, -⟩ := hC.2.2.2.2.1.at (by omega)
      clear hC hadd q1 HA0 HA1
      gi_wp2
      refine ⟨(KeepsOthers.alloc _ _).from _, (Below.refl n₀ W).alloc (by omega) _, fun _ W2 => addC w.heap.size w2.heap.size w3.heap.size w (y1, y2) outs (.slice va outs.length vc) L.length W2 ∧ At W.heap.size 0 (.int .i64 L[k].1) W2 ∧ At W.heap.size 1 (.int .i64 L[k].2) W2, ?_, ⟨addC_alloc HI.out (by omega) _, At.new _ rfl rfl, At.new _ rfl rfl⟩, ?_⟩
      · intro _ A A' row h hg hr
        exact ⟨addC_own (B := _) (Nat.le_refl _) (by first | omega | (simp; omega)) h.1 hg hr, h.2.1.own hg (fun r e => (hr r e).2), h.2.2.own hg (fun r e => (hr r e).2)⟩
      · rintro W2 ⟨hC, ⟨x0, f0⟩, ⟨x1, f1⟩⟩
        obtain ⟨⟨d0, e0⟩, ⟨d1, e1⟩, ⟨d2, e2⟩, ⟨d3, e3⟩, -⟩ := id hC
        have HC := Lib.hid hC
        have hbx := canonF_nth (takesB_iff.1 htk).1 hk
        clear HI hC
        by_cases c1 : L[k].2 < y1
        · have hll : outs.length ≤ 4398046511104 := by omega
          gi_wp2_with (first | (gi_at_builtin; refine wpListIn_append_span _ rfl _ _ rfl w2.heap.size _ _ rfl (HC.out.2.2.2.2.1.alloc _) hll W2.heap.size L[k] rfl (by simp) (by simp) (by have := HC.out.2.2.1.lt; simp; omega) ?_))
          intro v' W3 ho hg hbl
          obtain ⟨va', vc', hv', -⟩ := ho.at (by rw [List.length_append]; simp; omega)
          have hCa := addC_alloc HC.out (by have := HC.out.1.lt; omega) (.cells #[.int .i64 L[k].1, .int .i64 L[k].2] 51)
          have hC3 := addC_app hNM hMQ hCa hg ho (by simpa using hbl) (Nat.le_refl _)
          have hne : (Value.slice va outs.length vc).ownBlock ≠ some w3.heap.size := fun e => by have := HV7.out _ e; omega
          obtain ⟨z0, g0⟩ := hCa.2.2.1.grown hg hne
          have hk3 := ((KeepsOthers.alloc W2 (.cells #[.int .i64 L[k].1, .int .i64 L[k].2] 51)).trans (keeps_own hCa.2.2.2.2.1 hg))
          have hb3 : Below n₀ W2 W3 := ((Below.refl n₀ W2).alloc (by have := HC.out.1.lt; omega) _).trans (grown_below hg (by have := HC.out.1.lt; simp; omega) (fun b e => by have := HV.out _ e; omega))
          have HK3 := Lib.hid hk3
          have HB3 := Lib.hid hb3
          have HC4 := Lib.hid hC3
          have hlen' : (outs ++ [L[k]]).length ≤ k + 1 := by rw [List.length_append]; simp; omega
          have HL' := Lib.hid hlen'
          clear hC3 hk3 hb3 hg hne HC HV d0 d1 d2 d3 e0 e1 e2 e3 x0 x1 f0 f1 ho hCa hbl hlen'
          generalize (outs ++ [L[k]]).length = nl at hv'
          subst hv'
          gi_wp2_with fail
          refine ⟨(HK3.out.trans (KeepsOthers.setCell _ _ _)).from _, HB3.out.setCell (p := ⟨w3.heap.size, 0, none⟩) (by show n₀ ≤ w3.heap.size; omega) _, _, _, _, HC4.out, HL'.out, ?_⟩
          rw [HG.out, HD.out, if_pos c1, List.append_assoc]
          rfl
        · have HN1 := Lib.hid (Int.not_lt.1 c1)
          by_cases c2 : y2 < L[k].1
          · gi_wp2_with fail
            exact ⟨(KeepsOthers.setCell _ _ _).from _, _, outs, _, addC_rest hNM hMQ HC.out k, hlen, by rw [HG.out, HD.out, if_neg (Int.not_lt.2 HN1.out), if_pos c2, List.drop_eq_getElem_cons hk], rfl⟩
          · have HN2 := Lib.hid (Int.not_lt.1 c2)
            by_cases c3 : L[k].1 < y1
            · by_cases c4 : y2 < L[k].2
              · have HP := Lib.hid (show (min y1 L[k].1, max y2 L[k].2) = (L[k].1, L[k].2) from Prod.ext (by dsimp only; omega) (by dsimp only; omega))
                gi_wp2_with fail
                exact ⟨((KeepsOthers.setCell _ _ _).trans (KeepsOthers.setCell _ _ _)).from _, ((Below.refl n₀ W2).setCell (p := ⟨w.heap.size, 0, none⟩) (by show n₀ ≤ w.heap.size; omega) _).setCell (p := ⟨w.heap.size, 1, none⟩) (by show n₀ ≤ w.heap.size; omega) _, (L[k].1, L[k].2), outs, _, addC_s hNM hMQ HC.out (L[k].1, L[k].2) (by dsimp only; omega), by omega, by rw [HG.out, HD.out, if_neg (Int.not_lt.2 HN1.out), if_neg (Int.not_lt.2 HN2.out)]; rw [HP.out]⟩
              · have HP := Lib.hid (show (min y1 L[k].1, max y2 L[k].2) = (L[k].1, y2) from Prod.ext (by dsimp only; omega) (by dsimp only; omega))
                gi_wp2_with fail
                exact ⟨((KeepsOthers.setCell _ _ _).trans (KeepsOthers.setCell _ _ _)).from _, ((Below.refl n₀ W2).setCell (p := ⟨w.heap.size, 0, none⟩) (by show n₀ ≤ w.heap.size; omega) _).setCell (p := ⟨w.heap.size, 1, none⟩) (by show n₀ ≤ w.heap.size; omega) _, (L[k].1, y2), outs, _, addC_s hNM hMQ HC.out (L[k].1, y2) (by dsimp only; omega), by omega, by rw [HG.out, HD.out, if_neg (Int.not_lt.2 HN1.out), if_neg (Int.not_lt.2 HN2.out)]; rw [HP.out]⟩
            · by_cases c4 : y2 < L[k].2
              · have HP := Lib.hid (show (min y1 L[k].1, max y2 L[k].2) = (y1, L[k].2) from Prod.ext (by dsimp only; omega) (by dsimp only; omega))
                gi_wp2_with fail
                exact ⟨((KeepsOthers.setCell _ _ _).trans (KeepsOthers.setCell _ _ _)).from _, ((Below.refl n₀ W2).setCell (p := ⟨w.heap.size, 0, none⟩) (by show n₀ ≤ w.heap.size; omega) _).setCell (p := ⟨w.heap.size, 1, none⟩) (by show n₀ ≤ w.heap.size; omega) _, (y1, L[k].2), outs, _, addC_s hNM hMQ HC.out (y1, L[k].2) (by dsimp only; omega), by omega, by rw [HG.out, HD.out, if_neg (Int.not_lt.2 HN1.out), if_neg (Int.not_lt.2 HN2.out)]; rw [HP.out]⟩
              · have HP := Lib.hid (show (min y1 L[k].1, max y2 L[k].2) = (y1, y2) from Prod.ext (by dsimp only; omega) (by dsimp only; omega))
                gi_wp2_with fail
                exact ⟨((KeepsOthers.setCell _ _ _).trans (KeepsOthers.setCell _ _ _)).from _, ((Below.refl n₀ W2).setCell (p := ⟨w.heap.size, 0, none⟩) (by show n₀ ≤ w.heap.size; omega) _).setCell (p := ⟨w.heap.size, 1, none⟩) (by show n₀ ≤ w.heap.size; omega) _, (y1, y2), outs, _, addC_s hNM hMQ HC.out (y1, y2) (by dsimp only; omega), by omega, by rw [HG.out, HD.out, if_neg (Int.not_lt.2 HN1.out), if_neg (Int.not_lt.2 HN2.out)]; rw [HP.out]⟩

    case done =>
      rintro D W hD ⟨⟨y1, y2⟩, outs, v, hC, hlen, hadd⟩ hDf
      rw [List.drop_length] at hadd
      have hD2 : w.heap.size ≤ D := by simp at hD; omega
      obtain ⟨va, vc, rfl, -⟩ := hC.2.2.2.2.1.at (by omega)
      obtain ⟨⟨d0, -⟩, ⟨d1, -⟩, ⟨d2, -⟩, ⟨d3, -⟩, -⟩ := id hC
      have hy : y1 < y2 := hC.2.2.2.2.2.2.2
      have HC := Lib.hid hC
      have HG := Lib.hid hadd
      have HDF := Lib.hid hDf
      have hW2 : w3.heap.size + 1 < W.heap.size := hC.2.2.2.1.lt
      have hr : L.length ≤ L.length := by omega
      have hr2 : L.length ≤ cap := by omega
      clear hC hadd hDf hD q1 HA0 HA1
      go_wp2_with fail
      refine wp_mono (Q := noPanic _) ?_ (noPanic_le _)
      refine wp_region_held_drew (S := (fun w' : World => w'.cell? ⟨w3.heap.size, 0, none⟩ = some (.slice va outs.length vc) ∧ w'.cell? ⟨w.heap.size, 0, none⟩ = some (.int .i64 y1) ∧ w'.cell? ⟨w.heap.size, 1, none⟩ = some (.int .i64 y2) ∧ w'.cell? ⟨w3.heap.size + 1, 0, none⟩ = some (.int .i64 (L.length : Int)))) (by kernel_rfl) (⟨d2, d0, d1, d3⟩) (fun hHeld => ?_)
      refine wpAnyH_take (i := 0) (v := ?_) (by simp only [List.getElem?_toArray, List.getElem?_cons_zero]; rfl) (by kernel_rfl) (by kernel_rfl) (by kernel_rfl) (by exact fun _ _ _ h => h) (Or.inl ⟨by rfl, ?_⟩) (by assumption) ?_
      rotate_left 1
      · intro w hSw; (obtain ⟨g0, g1, g2, g3⟩ := hSw); go_simp; (try with_reducible rfl)
      (try simp only [Act.put, List.setIfInBounds_toArray, List.set_cons_zero, List.set_cons_succ])
      refine wpAnyH_take (i := 1) (v := ?_) (by simp only [List.getElem?_toArray, List.getElem?_cons_succ, List.getElem?_cons_zero]; rfl) (by kernel_rfl) (by kernel_rfl) (by kernel_rfl) (by exact fun _ _ _ h => h) (Or.inl ⟨by rfl, ?_⟩) (by assumption) ?_
      rotate_left 1
      · intro w hSw; (obtain ⟨g0, g1, g2, g3⟩ := hSw); go_simp; (try with_reducible rfl)
      (try simp only [Act.put, List.setIfInBounds_toArray, List.set_cons_zero, List.set_cons_succ])
      refine wpAnyH_take (i := 4) (v := ?_) (by simp only [List.getElem?_toArray, List.getElem?_cons_succ, List.getElem?_cons_zero]; rfl) (by kernel_rfl) (by kernel_rfl) (by kernel_rfl) (by exact fun _ _ _ h => h) (Or.inl ⟨by rfl, ?_⟩) (by assumption) ?_
      rotate_left 1
      · intro w hSw; (obtain ⟨g0, g1, g2, g3⟩ := hSw); go_simp; (try with_reducible rfl)
      (try simp only [Act.put, List.setIfInBounds_toArray, List.set_cons_zero, List.set_cons_succ])
      refine wpAnyH_take (i := 5) (v := ?_) (by simp only [List.getElem?_toArray, List.getElem?_cons_succ, List.getElem?_cons_zero]; rfl) (by kernel_rfl) (by kernel_rfl) (by kernel_rfl) (by exact fun _ _ _ h => h) (Or.inl ⟨by rfl, ?_⟩) (by assumption) ?_
      rotate_left 1
      · intro w hSw; (obtain ⟨g0, g1, g2, g3⟩ := hSw); go_simp; (try with_reducible rfl)
      (try simp only [Act.put, List.setIfInBounds_toArray, List.set_cons_zero, List.set_cons_succ])
      refine wpAnyH_take (i := 6) (v := ?_) (by simp only [List.getElem?_toArray, List.getElem?_cons_succ, List.getElem?_cons_zero]; rfl) (by kernel_rfl) (by kernel_rfl) (by kernel_rfl) (by exact fun _ _ _ h => h) (Or.inl ⟨by rfl, ?_⟩) (by assumption) ?_
      rotate_left 1
      · intro w hSw; (obtain ⟨g0, g1, g2, g3⟩ := hSw); go_simp; (try with_reducible rfl)
      (try simp only [Act.put, List.setIfInBounds_toArray, List.set_cons_zero, List.set_cons_succ])
      have HC1 := Lib.hid (addC_drew HC.out)
      have HC2 := Lib.hid (addC_alloc HC1.out (by show w.heap.size ≤ W.heap.size; omega) (.cells #[.int .i64 y1, .int .i64 y2] 51))
      refine wpAnyH_ready (rs := [2]) (by kernel_rfl) (by simp) ?_
      refine AllReadyH.cons (by simp only [List.getElem?_toArray, List.getElem?_cons_succ, List.getElem?_cons_zero]; rfl) (fun Kq hKq => ?_) AllReadyH.nil
      go_simp
      refine hKq.out _ _ (⟨HC2.out.2.2.1.1, HC2.out.1.1, HC2.out.2.1.1, HC2.out.2.2.2.1.1⟩) (fun hHeld2 => ?_)
      clear hKq Kq hHeld
      (try simp only [Act.put, List.setIfInBounds_toArray, List.set_cons_zero, List.set_cons_succ])
      have hHeld := hHeld2
      clear hHeld2
      refine wpAnyH_ready (rs := [3]) (by kernel_rfl) (by simp) ?_
      refine AllReadyH.cons (by simp only [List.getElem?_toArray, List.getElem?_cons_succ, List.getElem?_cons_zero]; rfl) (fun Kq hKq => ?_) AllReadyH.nil
      go_simp
      refine (with_len (W.drew.alloc (.cells #[.int .i64 y1, .int .i64 y2] 51)) w2.heap.size (W.heap.size + 1) (.slice va outs.length vc) outs _ _ [(y1, y2)] HC2.out.2.2.2.2.1 (by omega) (by simp; omega) (sp_one (W := W.drew) _ _ (Nat.le_refl _)) (by simp) (by intro _ ad e; cases e; exact fun e => by have := (HC1.out.2.2.2.2.1.lt _ e).2; simp at this) 1 rfl).mono ?_
      rintro e W5 ⟨v1, rfl, ho1, hg1, hbl1⟩
      rw [withL_one, one, if_pos hy] at ho1
      have hne : ∀ b, b < w2.heap.size ∨ b = w3.heap.size ∨ b = w3.heap.size + 1 → (Value.slice va outs.length vc).ownBlock ≠ some b := fun b hb e => by have := (HC.out.2.2.2.2.1.lt _ e).1; have := HC.out.2.2.2.2.2.2.1 _ e; omega
      have z0 := HC2.out.1.grown hg1 (hne _ (by omega))
      have z1 := HC2.out.2.1.grown hg1 (hne _ (by omega))
      have z2 := HC2.out.2.2.1.grown hg1 (hne _ (by omega))
      have z3 := HC2.out.2.2.2.1.grown hg1 (hne _ (by omega))
      have hD5 := ((KeepsOthers.drew W).trans ((KeepsOthers.alloc _ _).trans (keeps_own HC2.out.2.2.2.2.1 hg1))).same D _ HDF.out rfl
      have hb5 : Below w.heap.size w W5 := HC2.out.2.2.2.2.2.1.trans (grown_below hg1 (by simp; omega) (fun b e => by have := (HC.out.2.2.2.2.1.lt _ e).1; omega))
      have hs5 : W.heap.size ≤ W5.heap.size := by have := hg1.size; simp at this; omega
      have HD5 := Lib.hid hD5
      have HB5 := Lib.hid hb5
      have HO5 := Lib.hid ho1
      have hne1 : ∀ b, b < w2.heap.size ∨ b = w3.heap.size ∨ b = w3.heap.size + 1 → v1.ownBlock ≠ some b := fun b hb e => by { have h1 := (ho1.lt _ e).1; rcases hbl1 with h | ⟨j, h, hj⟩; (rw [h] at e; exact hne b hb e); (rw [h] at e; cases e; simp at hj; omega) }
      have HZ := Lib.hid (show _ ∧ _ ∧ _ ∧ _ from ⟨z0, z1, z2, z3⟩)
      have HN1 := Lib.hid hne1
      clear hD5 hb5 ho1 hg1 hne hbl1 hne1
      go_simp
      refine hKq.out _ _ (⟨z2.1, z0.1, z1.1, z3.1⟩) (fun hHeld2 => ?_)
      clear hKq Kq hHeld
      (try simp only [Act.put, List.setIfInBounds_toArray, List.set_cons_zero, List.set_cons_succ])
      have hHeld := hHeld2
      clear hHeld2
      clear z0 z1 z2 z3
      refine wpAnyH_ready (rs := [7]) (by kernel_rfl) (by simp) ?_
      refine AllReadyH.cons (by simp only [List.getElem?_toArray, List.getElem?_cons_succ, List.getElem?_cons_zero]; rfl) (fun Kq hKq => ?_) AllReadyH.nil
      go_simp
      refine (with_len W5 w2.heap.size n₀ v1 (outs ++ [(y1, y2)]) _ _ (L.drop L.length) HO5.out (by rw [List.length_append]; simp; omega) (by omega) (((HS3.out.drop hcap L.length).below (below_of hn HB3.out HB5.out (by omega)))) (by omega) (by intro hp ad e; obtain ⟨b, off, e2, hb, -⟩ := (HS3.out.drop hcap L.length).cells hp; rw [e2] at e; cases e; exact fun e => by have := (HO5.out.lt _ e).1; simp at this; omega) _ (by simp)).mono ?_
      rintro e W6 ⟨v2, rfl, ho2, hg2, -⟩
      have hne : ∀ b, b < w2.heap.size → v1.ownBlock ≠ some b := fun b hb e => by have := (HO5.out.lt _ e).1; omega
      have hD6 := (keeps_own HO5.out hg2).same D _ HD5.out rfl
      have hb6 : Below w.heap.size w W6 := HB5.out.trans (grown_below hg2 (by omega) (fun b e => by have := (HO5.out.lt _ e).1; omega))
      obtain ⟨z0, z1, z2, z3⟩ := HZ.out
      replace z0 := z0.grown hg2 (HN1.out _ (by omega))
      replace z1 := z1.grown hg2 (HN1.out _ (by omega))
      replace z2 := z2.grown hg2 (HN1.out _ (by omega))
      replace z3 := z3.grown hg2 (HN1.out _ (by omega))
      have HD6 := Lib.hid hD6
      have HB6 := Lib.hid hb6
      have HO6 := Lib.hid ho2
      clear hD6 hb6 ho2 hne hg2
      go_simp
      refine hKq.out _ _ (⟨z2.1, z0.1, z1.1, z3.1⟩) (fun hHeld2 => ?_)
      clear hKq Kq hHeld
      (try simp only [Act.put, List.setIfInBounds_toArray, List.set_cons_zero, List.set_cons_succ])
      have hHeld := hHeld2
      clear hHeld2
      clear z0 z1 z2 z3
      refine wpAnyH_take (i := 8) (v := ?_) (by simp only [List.getElem?_toArray, List.getElem?_cons_succ, List.getElem?_cons_zero]; rfl) (by kernel_rfl) (by kernel_rfl) (by kernel_rfl) (by exact fun _ _ _ h => h) (Or.inl ⟨by rfl, ?_⟩) (by assumption) ?_
      rotate_left 1
      · intro w hSw; (obtain ⟨g0, g1, g2, g3⟩ := hSw); go_simp; (try with_reducible rfl)
      (try simp only [Act.put, List.setIfInBounds_toArray, List.set_cons_zero, List.set_cons_succ])
      refine wpAnyH_done (by kernel_rfl) ?_ _
      simp only [noPanic]
      go_wp2_with fail
      all_goals
        refine ret_marks rfl HD6.out ⟨_, rfl, ?_, below_take HB6.out (Nat.le_refl _) hD2⟩
        unfold addL
        rw [if_pos htk, HG.out]
        have := HO6.out
        rw [List.drop_length, show withL ([] : List Sp) = [] from rfl, List.append_nil] at this
        exact (this.own (grownBy_putObj' W6 D _) (fun r e => by cases e; exact ⟨_, HD6.out, rfl⟩)).mono (by omega)
    case stop =>
      rintro D c k W hD hk ⟨⟨y1, y2⟩, outs, v, hC, hlen, hadd, rfl⟩ hDf
      have hD2 : w.heap.size ≤ D := by simp at hD; omega
      obtain ⟨va, vc, rfl, -⟩ := hC.2.2.2.2.1.at (by omega)
      obtain ⟨⟨d0, -⟩, ⟨d1, -⟩, ⟨d2, -⟩, ⟨d3, -⟩, -⟩ := id hC
      have hy : y1 < y2 := hC.2.2.2.2.2.2.2
      have HC := Lib.hid hC
      have HG := Lib.hid hadd
      have HDF := Lib.hid hDf
      have hW2 : w3.heap.size + 1 < W.heap.size := hC.2.2.2.1.lt
      have hr : k ≤ L.length := by omega
      have hr2 : k ≤ cap := by omega
      clear hC hadd hDf hD q1 HA0 HA1
      refine wpIn_wide.2 ?_
      go_wp2_with fail
      refine wp_mono (Q := noPanic _) ?_ (noPanic_le _)
      refine wp_region_held_drew (S := (fun w' : World => w'.cell? ⟨w3.heap.size, 0, none⟩ = some (.slice va outs.length vc) ∧ w'.cell? ⟨w.heap.size, 0, none⟩ = some (.int .i64 y1) ∧ w'.cell? ⟨w.heap.size, 1, none⟩ = some (.int .i64 y2) ∧ w'.cell? ⟨w3.heap.size + 1, 0, none⟩ = some (.int .i64 (k : Int)))) (by kernel_rfl) (⟨d2, d0, d1, d3⟩) (fun hHeld => ?_)
      refine wpAnyH_take (i := 0) (v := ?_) (by simp only [List.getElem?_toArray, List.getElem?_cons_zero]; rfl) (by kernel_rfl) (by kernel_rfl) (by kernel_rfl) (by exact fun _ _ _ h => h) (Or.inl ⟨by rfl, ?_⟩) (by assumption) ?_
      rotate_left 1
      · intro w hSw; (obtain ⟨g0, g1, g2, g3⟩ := hSw); go_simp; (try with_reducible rfl)
      (try simp only [Act.put, List.setIfInBounds_toArray, List.set_cons_zero, List.set_cons_succ])
      refine wpAnyH_take (i := 1) (v := ?_) (by simp only [List.getElem?_toArray, List.getElem?_cons_succ, List.getElem?_cons_zero]; rfl) (by kernel_rfl) (by kernel_rfl) (by kernel_rfl) (by exact fun _ _ _ h => h) (Or.inl ⟨by rfl, ?_⟩) (by assumption) ?_
      rotate_left 1
      · intro w hSw; (obtain ⟨g0, g1, g2, g3⟩ := hSw); go_simp; (try with_reducible rfl)
      (try simp only [Act.put, List.setIfInBounds_toArray, List.set_cons_zero, List.set_cons_succ])
      refine wpAnyH_take (i := 4) (v := ?_) (by simp only [List.getElem?_toArray, List.getElem?_cons_succ, List.getElem?_cons_zero]; rfl) (by kernel_rfl) (by kernel_rfl) (by kernel_rfl) (by exact fun _ _ _ h => h) (Or.inl ⟨by rfl, ?_⟩) (by assumption) ?_
      rotate_left 1
      · intro w hSw; (obtain ⟨g0, g1, g2, g3⟩ := hSw); go_simp; (try with_reducible rfl)
      (try simp only [Act.put, List.setIfInBounds_toArray, List.set_cons_zero, List.set_cons_succ])
      refine wpAnyH_take (i := 5) (v := ?_) (by simp only [List.getElem?_toArray, List.getElem?_cons_succ, List.getElem?_cons_zero]; rfl) (by kernel_rfl) (by kernel_rfl) (by kernel_rfl) (by exact fun _ _ _ h => h) (Or.inl ⟨by rfl, ?_⟩) (by assumption) ?_
      rotate_left 1
      · intro w hSw; (obtain ⟨g0, g1, g2, g3⟩ := hSw); go_simp; (try with_reducible rfl)
      (try simp only [Act.put, List.setIfInBounds_toArray, List.set_cons_zero, List.set_cons_succ])
      refine wpAnyH_take (i := 6) (v := ?_) (by simp only [List.getElem?_toArray, List.getElem?_cons_succ, List.getElem?_cons_zero]; rfl) (by kernel_rfl) (by kernel_rfl) (by kernel_rfl) (by exact fun _ _ _ h => h) (Or.inl ⟨by rfl, ?_⟩) (by assumption) ?_
      rotate_left 1
      · intro w hSw; (obtain ⟨g0, g1, g2, g3⟩ := hSw); go_simp; (try with_reducible rfl)
      (try simp only [Act.put, List.setIfInBounds_toArray, List.set_cons_zero, List.set_cons_succ])
      have HC1 := Lib.hid (addC_drew HC.out)
      have HC2 := Lib.hid (addC_alloc HC1.out (by show w.heap.size ≤ W.heap.size; omega) (.cells #[.int .i64 y1, .int .i64 y2] 51))
      refine wpAnyH_ready (rs := [2]) (by kernel_rfl) (by simp) ?_
      refine AllReadyH.cons (by simp only [List.getElem?_toArray, List.getElem?_cons_succ, List.getElem?_cons_zero]; rfl) (fun Kq hKq => ?_) AllReadyH.nil
      go_simp
      refine hKq.out _ _ (⟨HC2.out.2.2.1.1, HC2.out.1.1, HC2.out.2.1.1, HC2.out.2.2.2.1.1⟩) (fun hHeld2 => ?_)
      clear hKq Kq hHeld
      (try simp only [Act.put, List.setIfInBounds_toArray, List.set_cons_zero, List.set_cons_succ])
      have hHeld := hHeld2
      clear hHeld2
      refine wpAnyH_ready (rs := [3]) (by kernel_rfl) (by simp) ?_
      refine AllReadyH.cons (by simp only [List.getElem?_toArray, List.getElem?_cons_succ, List.getElem?_cons_zero]; rfl) (fun Kq hKq => ?_) AllReadyH.nil
      go_simp
      refine (with_len (W.drew.alloc (.cells #[.int .i64 y1, .int .i64 y2] 51)) w2.heap.size (W.heap.size + 1) (.slice va outs.length vc) outs _ _ [(y1, y2)] HC2.out.2.2.2.2.1 (by omega) (by simp; omega) (sp_one (W := W.drew) _ _ (Nat.le_refl _)) (by simp) (by intro _ ad e; cases e; exact fun e => by have := (HC1.out.2.2.2.2.1.lt _ e).2; simp at this) 1 rfl).mono ?_
      rintro e W5 ⟨v1, rfl, ho1, hg1, hbl1⟩
      rw [withL_one, one, if_pos hy] at ho1
      have hne : ∀ b, b < w2.heap.size ∨ b = w3.heap.size ∨ b = w3.heap.size + 1 → (Value.slice va outs.length vc).ownBlock ≠ some b := fun b hb e => by have := (HC.out.2.2.2.2.1.lt _ e).1; have := HC.out.2.2.2.2.2.2.1 _ e; omega
      have z0 := HC2.out.1.grown hg1 (hne _ (by omega))
      have z1 := HC2.out.2.1.grown hg1 (hne _ (by omega))
      have z2 := HC2.out.2.2.1.grown hg1 (hne _ (by omega))
      have z3 := HC2.out.2.2.2.1.grown hg1 (hne _ (by omega))
      have hD5 := ((KeepsOthers.drew W).trans ((KeepsOthers.alloc _ _).trans (keeps_own HC2.out.2.2.2.2.1 hg1))).same D _ HDF.out rfl
      have hb5 : Below w.heap.size w W5 := HC2.out.2.2.2.2.2.1.trans (grown_below hg1 (by simp; omega) (fun b e => by have := (HC.out.2.2.2.2.1.lt _ e).1; omega))
      have hs5 : W.heap.size ≤ W5.heap.size := by have := hg1.size; simp at this; omega
      have HD5 := Lib.hid hD5
      have HB5 := Lib.hid hb5
      have HO5 := Lib.hid ho1
      have hne1 : ∀ b, b < w2.heap.size ∨ b = w3.heap.size ∨ b = w3.heap.size + 1 → v1.ownBlock ≠ some b := fun b hb e => by { have h1 := (ho1.lt _ e).1; rcases hbl1 with h | ⟨j, h, hj⟩; (rw [h] at e; exact hne b hb e); (rw [h] at e; cases e; simp at hj; omega) }
      have HZ := Lib.hid (show _ ∧ _ ∧ _ ∧ _ from ⟨z0, z1, z2, z3⟩)
      have HN1 := Lib.hid hne1
      clear hD5 hb5 ho1 hg1 hne hbl1 hne1
      go_simp
      refine hKq.out _ _ (⟨z2.1, z0.1, z1.1, z3.1⟩) (fun hHeld2 => ?_)
      clear hKq Kq hHeld
      (try simp only [Act.put, List.setIfInBounds_toArray, List.set_cons_zero, List.set_cons_succ])
      have hHeld := hHeld2
      clear hHeld2
      clear z0 z1 z2 z3
      refine wpAnyH_ready (rs := [7]) (by kernel_rfl) (by simp) ?_
      refine AllReadyH.cons (by simp only [List.getElem?_toArray, List.getElem?_cons_succ, List.getElem?_cons_zero]; rfl) (fun Kq hKq => ?_) AllReadyH.nil
      go_simp
      refine (with_len W5 w2.heap.size n₀ v1 (outs ++ [(y1, y2)]) _ _ (L.drop k) HO5.out (by rw [List.length_append]; simp; omega) (by omega) (((HS3.out.drop hcap k).below (below_of hn HB3.out HB5.out (by omega)))) (by omega) (by intro hp ad e; obtain ⟨b, off, e2, hb, -⟩ := (HS3.out.drop hcap k).cells hp; rw [e2] at e; cases e; exact fun e => by have := (HO5.out.lt _ e).1; simp at this; omega) _ (by simp)).mono ?_
      rintro e W6 ⟨v2, rfl, ho2, hg2, -⟩
      have hne : ∀ b, b < w2.heap.size → v1.ownBlock ≠ some b := fun b hb e => by have := (HO5.out.lt _ e).1; omega
      have hD6 := (keeps_own HO5.out hg2).same D _ HD5.out rfl
      have hb6 : Below w.heap.size w W6 := HB5.out.trans (grown_below hg2 (by omega) (fun b e => by have := (HO5.out.lt _ e).1; omega))
      obtain ⟨z0, z1, z2, z3⟩ := HZ.out
      replace z0 := z0.grown hg2 (HN1.out _ (by omega))
      replace z1 := z1.grown hg2 (HN1.out _ (by omega))
      replace z2 := z2.grown hg2 (HN1.out _ (by omega))
      replace z3 := z3.grown hg2 (HN1.out _ (by omega))
      have HD6 := Lib.hid hD6
      have HB6 := Lib.hid hb6
      have HO6 := Lib.hid ho2
      clear hD6 hb6 ho2 hne hg2
      go_simp
      refine hKq.out _ _ (⟨z2.1, z0.1, z1.1, z3.1⟩) (fun hHeld2 => ?_)
      clear hKq Kq hHeld
      (try simp only [Act.put, List.setIfInBounds_toArray, List.set_cons_zero, List.set_cons_succ])
      have hHeld := hHeld2
      clear hHeld2
      clear z0 z1 z2 z3
      refine wpAnyH_take (i := 8) (v := ?_) (by simp only [List.getElem?_toArray, List.getElem?_cons_succ, List.getElem?_cons_zero]; rfl) (by kernel_rfl) (by kernel_rfl) (by kernel_rfl) (by exact fun _ _ _ h => h) (Or.inl ⟨by rfl, ?_⟩) (by assumption) ?_
      rotate_left 1
      · intro w hSw; (obtain ⟨g0, g1, g2, g3⟩ := hSw); go_simp; (try with_reducible rfl)
      (try simp only [Act.put, List.setIfInBounds_toArray, List.set_cons_zero, List.set_cons_succ])
      refine wpAnyH_done (by kernel_rfl) ?_ _
      simp only [noPanic]
      go_wp2_with fail
      all_goals
        refine ret_marks rfl HD6.out ⟨_, rfl, ?_, below_take HB6.out (Nat.le_refl _) hD2⟩
        unfold addL
        rw [if_pos htk, HG.out]
        have hcd := (canonF_drop2 (takesB_iff.1 htk).1 k).choose_spec
        have := HO6.out
        rw [withL_canon hcd, List.append_assoc] at this
        exact (this.own (grownBy_putObj' W6 D _) (fun r e => by cases e; exact ⟨_, HD6.out, rfl⟩)).mono (by omega)
end Go.Proofs.Ytfeppkgcimgkeaa
