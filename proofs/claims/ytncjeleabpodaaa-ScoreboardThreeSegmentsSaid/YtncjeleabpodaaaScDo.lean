/- Law 14's do. -/
import Derived.Test.YtncjeleabpodaaaScPk
import Derived.Test.YtncjeleabpodaaaScLs
import Derived.Deep.QuietTactic
import Derived.BigQuiet
namespace Go.Proofs.Ytncjeleabpodaaa
open Go.RowKit Go.Shelf
theorem qsc {P : Program} {f : FuncId} {args : Array Value} {w : World} {n : Nat} {v : Value}
    (h : Calls P f args (w.drewN n) fun e w' => e = .returned v ∧ w.drewN n = w') : Calls P f args (w.drewN n) fun e w'' => e = .returned v ∧ ∃ m, w'' = w.drewN m :=
  h.mono fun _ _ ⟨he, hm⟩ => ⟨he, n, hm.symm⟩
theorem canonF_len2 {e n : Int} {L : List Sp} (h : canonF e L = true) (hm : ∀ i, Mem i L → i < n) : (L.length : Int) ≤ max 0 (n - e) := by
  induction L generalizing e with
  | nil => simp; omega
  | cons x l ih =>
    rw [canonF_cons] at h
    have h1 := ih h.2 (fun i hi => hm i (mem_cons.2 (.inr hi)))
    have h2 := hm (x.2 - 1) (mem_cons.2 (.inl (by omega)))
    rw [List.length_cons]
    omega
theorem wrap64_in {n : Int} (h : I64 n) : wrap64 n = n := by
  unfold I64 at h
  unfold wrap64
  omega
theorem tdiv2 {a : Int} (h : 0 ≤ a) : a.tdiv 2 = a / 2 := Int.tdiv_eq_ediv_of_nonneg h
theorem i64_tdiv3 {n : Int} (h : I64 n) : I64 (n.tdiv 3) := by
  unfold I64 at *
  rcases Int.le_total 0 n with hn | hn
  · rw [Int.tdiv_eq_ediv_of_nonneg hn]; omega
  · have e : n.tdiv 3 = -((-n).tdiv 3) := by rw [Int.neg_tdiv, Int.neg_neg]
    rw [e, Int.tdiv_eq_ediv_of_nonneg (by omega)]; omega
set_option maxRecDepth 100000 in
set_option maxHeartbeats 4000000 in
theorem do_any (N Bs Br lb : Nat) (s : Sc) (c : Cl) (w : World) (ok : s.Ok) (hne : Bs ≠ Br) (hN : N ≤ w.heap.size) (hNs : N ≤ Bs) (hNr : N ≤ Br) (hls : Bs < lb) (hlr : Br < lb) (hn : s.next ≤ 60000) (hs : ScAt Bs lb s w) (hr : RcAt Br lb s w) (hI : I64 c.kind ∧ I64 c.n ∧ I64 c.a.1 ∧ I64 c.a.2 ∧ I64 c.b.1 ∧ I64 c.b.2) :
    Calls Try.prog 54 #[.pointer (some ⟨Bs, 0, none⟩), .pointer (some ⟨Br, 0, none⟩), .agg #[.int .i64 c.kind, .int .i64 c.n, .int .i64 c.a.1, .int .i64 c.a.2, .int .i64 c.b.1, .int .i64 c.b.2, .bool false]] w fun e w' => ∃ s', e = .returned (.bool true) ∧ s'.Ok ∧ s'.next ≤ s.next + 60 ∧ ScAt Bs lb s' w' ∧ RcAt Br lb s' w' ∧ Below N w w' := by
  obtain ⟨hk, hm, ha1, ha2, hb1, hb2⟩ := hI
  have hslt := hs.lt
  have hrlt := hr.lt
  have hbx := rcBel w (.cells #[.int .i64 c.kind, .int .i64 c.n, .int .i64 c.a.1, .int .i64 c.a.2, .int .i64 c.b.1, .int .i64 c.b.2, .bool false] 89)
  have HOK := Lib.hid ok
  have HS := Lib.hid (hs.below hbx)
  have HR := Lib.hid (hr.below hbx)
  have HB := Lib.hid (hbx.mono hN)
  have hXl : ∀ i v, (#[.int .i64 c.kind, .int .i64 c.n, .int .i64 c.a.1, .int .i64 c.a.2, .int .i64 c.b.1, .int .i64 c.b.2, .bool false] : Array Value)[i]? = some v → At w.heap.size i v (w.alloc (.cells #[.int .i64 c.kind, .int .i64 c.n, .int .i64 c.a.1, .int .i64 c.a.2, .int .i64 c.b.1, .int .i64 c.b.2, .bool false] 89)) := fun i v h => At.new _ rfl h
  have x0 : (w.alloc (.cells #[.int .i64 c.kind, .int .i64 c.n, .int .i64 c.a.1, .int .i64 c.a.2, .int .i64 c.b.1, .int .i64 c.b.2, .bool false] 89)).cell? ⟨w.heap.size, 0, none⟩ = some (.int .i64 c.kind) := (hXl 0 _ rfl).1
  have x1 : (w.alloc (.cells #[.int .i64 c.kind, .int .i64 c.n, .int .i64 c.a.1, .int .i64 c.a.2, .int .i64 c.b.1, .int .i64 c.b.2, .bool false] 89)).cell? ⟨w.heap.size, 1, none⟩ = some (.int .i64 c.n) := (hXl 1 _ rfl).1
  have x2 : (w.alloc (.cells #[.int .i64 c.kind, .int .i64 c.n, .int .i64 c.a.1, .int .i64 c.a.2, .int .i64 c.b.1, .int .i64 c.b.2, .bool false] 89)).cell? ⟨w.heap.size, 2, none⟩ = some (.int .i64 c.a.1) := (hXl 2 _ rfl).1
  have x3 : (w.alloc (.cells #[.int .i64 c.kind, .int .i64 c.n, .int .i64 c.a.1, .int .i64 c.a.2, .int .i64 c.b.1, .int .i64 c.b.2, .bool false] 89)).cell? ⟨w.heap.size, 3, none⟩ = some (.int .i64 c.a.2) := (hXl 3 _ rfl).1
  have x4 : (w.alloc (.cells #[.int .i64 c.kind, .int .i64 c.n, .int .i64 c.a.1, .int .i64 c.a.2, .int .i64 c.b.1, .int .i64 c.b.2, .bool false] 89)).cell? ⟨w.heap.size, 4, none⟩ = some (.int .i64 c.b.1) := (hXl 4 _ rfl).1
  have x5 : (w.alloc (.cells #[.int .i64 c.kind, .int .i64 c.n, .int .i64 c.a.1, .int .i64 c.a.2, .int .i64 c.b.1, .int .i64 c.b.2, .bool false] 89)).cell? ⟨w.heap.size, 5, none⟩ = some (.int .i64 c.b.2) := (hXl 5 _ rfl).1
  have x6 : (w.alloc (.cells #[.int .i64 c.kind, .int .i64 c.n, .int .i64 c.a.1, .int .i64 c.a.2, .int .i64 c.b.1, .int .i64 c.b.2, .bool false] 89)).cell? ⟨w.heap.size, 6, none⟩ = some (.bool false) := (hXl 6 _ rfl).1
  have HI := Lib.hid (show I64 c.kind ∧ I64 c.n ∧ I64 c.a.1 ∧ I64 c.a.2 ∧ I64 c.b.1 ∧ I64 c.b.2 from ⟨hk, hm, ha1, ha2, hb1, hb2⟩)
  have HPK := Lib.hid (fun W => pick_any c.kind 6 W hk (by omega) (by omega))
  have HP60 := Lib.hid (fun W => pick_any c.n 60 W hm (by omega) (by omega))
  have HP4 := Lib.hid (fun W => pick_any c.n 4 W hm (by omega) (by omega))
  clear hXl hs hr ok hbx hk hm ha1 ha2 hb1 hb2
  go_enter Try.func54, Try.ntmps54
  go_wp2_with fail
  refine (HPK.out _).mono ?_
  rintro e w1 ⟨rfl, rfl⟩
  obtain ⟨Xb, hXb⟩ : ∃ Xb, Xb = w.heap.size := ⟨_, rfl⟩
  rw [← hXb] at x0 x1 x2 x3 x4 x5 x6 ⊢
  have hXs : Xb < (w.alloc (.cells #[.int .i64 c.kind, .int .i64 c.n, .int .i64 c.a.1, .int .i64 c.a.2, .int .i64 c.b.1, .int .i64 c.b.2, .bool false] 89)).heap.size := by rw [hXb]; simp
  have hXB : Xb ≠ Bs ∧ Xb ≠ Br := ⟨by omega, by omega⟩
  have hXN : N ≤ Xb := by omega
  clear hXb hslt hrlt
  generalize w.alloc (.cells #[.int .i64 c.kind, .int .i64 c.n, .int .i64 c.a.1, .int .i64 c.a.2, .int .i64 c.b.1, .int .i64 c.b.2, .bool false] 89) = w1 at HS HR HB x0 x1 x2 x3 x4 x5 x6 hXs ⊢
  have hkb := pickV_bd c.kind 6 (by omega)
  generalize pickV c.kind 6 = kd at hkb HPK ⊢
  clear HPK
  rcases (show kd = 0 ∨ kd = 1 ∨ kd = 2 ∨ kd = 3 ∨ kd = 4 ∨ kd = 5 by omega) with rfl | rfl | rfl | rfl | rfl | rfl
  · have hp := pickV_bd c.n 60 (by omega)
    generalize pickV c.n 60 = p at HP60 hp ⊢
    obtain ⟨sa, sc, ga, gc, ⟨k0, -⟩, ⟨k1, -⟩, -, -, -, -, -⟩ := HR.out.ats
    have hn0 := HOK.out.u0
    have hn1 := HOK.out.un
    go_wp2_with fail
    go_quiet (first | exact qsc (HP60.out _))
    replace HS := Lib.hid (HS.out.below (show Below w1.heap.size w1 (w1.drewN nq) from ⟨rfl, rfl, rfl, Nat.le_refl _, fun _ _ => rfl⟩))
    replace HR := Lib.hid (HR.out.below (show Below w1.heap.size w1 (w1.drewN nq) from ⟨rfl, rfl, rfl, Nat.le_refl _, fun _ _ => rfl⟩))
    replace HB := Lib.hid (HB.out.trans (show Below N w1 (w1.drewN nq) from ⟨rfl, rfl, rfl, Nat.le_refl _, fun _ _ => rfl⟩))
    replace x4 := (show (w1.drewN nq).cell? _ = _ from x4)
    replace x6 := (show (w1.drewN nq).cell? _ = _ from x6)
    clear x0 x1 x2 x3 x5 k0 k1
    generalize w1.drewN nq = w2 at HS HR HB x4 x6 ⊢
    go_wp2_with fail
    refine (scsent_any Bs lb s (s.next + p) w2 HS.out).mono ?_
    rintro e w3 ⟨rfl, hS, hc⟩
    replace HR := Lib.hid (HR.out.other hc (by omega) (by omega))
    replace HB := Lib.hid (HB.out.trans (hc.below hNs HS.out.lt))
    replace HS := Lib.hid hS
    clear hS hc x4 x6
    go_wp2_with fail
    refine (rcsent_any Br lb s (s.next + p) w3 HR.out).mono ?_
    rintro e w4 ⟨rfl, hS, hc⟩
    replace HS := Lib.hid (HS.out.other hc (by omega) (by omega))
    replace HB := Lib.hid (HB.out.trans (hc.below hNr HR.out.lt))
    replace HR := Lib.hid hS
    clear hS hc
    go_wp2_with fail
    go_ret
    refine ⟨s.sent (s.next + p), by simp, HOK.out.sent _, ?_, HS.out, HR.out, HB.out⟩
    unfold Sc.sent
    split
    · dsimp only; omega
    · omega
  · have hp := pickV_bd c.n 60 (by omega)
    generalize pickV c.n 60 = p at HP60 hp ⊢
    obtain ⟨sa, sc, ga, gc, ⟨k0, -⟩, ⟨k1, -⟩, -, -, -, -, -⟩ := HR.out.ats
    have hn0 := HOK.out.u0
    have hn1 := HOK.out.un
    go_wp2_with fail
    go_quiet (first | exact qsc (HP60.out _))
    replace HS := Lib.hid (HS.out.below (show Below w1.heap.size w1 (w1.drewN nq) from ⟨rfl, rfl, rfl, Nat.le_refl _, fun _ _ => rfl⟩))
    replace HR := Lib.hid (HR.out.below (show Below w1.heap.size w1 (w1.drewN nq) from ⟨rfl, rfl, rfl, Nat.le_refl _, fun _ _ => rfl⟩))
    replace HB := Lib.hid (HB.out.trans (show Below N w1 (w1.drewN nq) from ⟨rfl, rfl, rfl, Nat.le_refl _, fun _ _ => rfl⟩))
    replace x4 := (show (w1.drewN nq).cell? _ = _ from x4)
    replace x6 := (show (w1.drewN nq).cell? _ = _ from x6)
    clear x0 x1 x2 x3 x5 k0 k1
    generalize w1.drewN nq = w2 at HS HR HB x4 x6 ⊢
    go_wp2_with fail
    refine (scsent_any Bs lb s (s.next + p) w2 HS.out).mono ?_
    rintro e w3 ⟨rfl, hS, hc⟩
    replace HR := Lib.hid (HR.out.other hc (by omega) (by omega))
    replace HB := Lib.hid (HB.out.trans (hc.below hNs HS.out.lt))
    replace HS := Lib.hid hS
    clear hS hc x4 x6
    go_wp2_with fail
    refine (rcsent_any Br lb s (s.next + p) w3 HR.out).mono ?_
    rintro e w4 ⟨rfl, hS, hc⟩
    replace HS := Lib.hid (HS.out.other hc (by omega) (by omega))
    replace HB := Lib.hid (HB.out.trans (hc.below hNr HR.out.lt))
    replace HR := Lib.hid hS
    clear hS hc
    go_wp2_with fail
    go_ret
    refine ⟨s.sent (s.next + p), by simp, HOK.out.sent _, ?_, HS.out, HR.out, HB.out⟩
    unfold Sc.sent
    split
    · dsimp only; omega
    · omega
  · obtain ⟨M, hM⟩ : ∃ M, M = (s.next - s.una) / 2 + 1 := ⟨_, rfl⟩
    have hu0 := HOK.out.u0
    have hu1 := HOK.out.un
    have HPZ := Lib.hid (fun W => pick_any (c.n.tdiv 3) M W (i64_tdiv3 HI.out.2.1) (by omega) (by omega))
    have hp := pickV_bd (c.n.tdiv 3) M (by omega)
    generalize pickV (c.n.tdiv 3) M = p at HPZ hp ⊢
    have HE1 := Lib.hid (show IntKind.i64.wrap (c.n.tdiv 3) = c.n.tdiv 3 from IntWalk.i64_in _ (i64_tdiv3 HI.out.2.1))
    have HE2 := Lib.hid (show IntKind.i64.wrap (max (IntKind.i64.wrap ((IntKind.i64.wrap (s.next - s.una)).tdiv 2)) 0 + 1) = M by rw [IntWalk.i64_in (s.next - s.una) (by omega), tdiv2 (by omega), IntWalk.i64_in ((s.next - s.una) / 2) (by omega), IntWalk.i64_in (max ((s.next - s.una) / 2) 0 + 1) (by omega)]; omega)
    have HF1 := Lib.hid (show wrap64 (c.n.tdiv 3) = c.n.tdiv 3 from wrap64_in (i64_tdiv3 HI.out.2.1))
    have HF2 := Lib.hid (show wrap64 (max (wrap64 ((wrap64 (s.next - s.una)).tdiv 2)) 0 + 1) = M by rw [wrap64_in (n := s.next - s.una) (by unfold I64; omega), tdiv2 (by omega), wrap64_in (n := (s.next - s.una) / 2) (by unfold I64; omega), wrap64_in (n := max ((s.next - s.una) / 2) 0 + 1) (by unfold I64; omega)]; omega)
    have hpm : s.una + p ≤ s.next := by omega
    clear hM
    obtain ⟨sa, sc, ga, gc, ⟨k0, -⟩, ⟨k1, -⟩, -, -, -, -, -⟩ := HR.out.ats
    go_wp2_with fail
    go_quiet (first | (rw [HE1.out, HE2.out]; exact qsc (HPZ.out _)) | (rw [HF1.out, HF2.out]; exact qsc (HPZ.out _)))
    replace HS := Lib.hid (HS.out.below (show Below w1.heap.size w1 (w1.drewN nq) from ⟨rfl, rfl, rfl, Nat.le_refl _, fun _ _ => rfl⟩))
    replace HR := Lib.hid (HR.out.below (show Below w1.heap.size w1 (w1.drewN nq) from ⟨rfl, rfl, rfl, Nat.le_refl _, fun _ _ => rfl⟩))
    replace HB := Lib.hid (HB.out.trans (show Below N w1 (w1.drewN nq) from ⟨rfl, rfl, rfl, Nat.le_refl _, fun _ _ => rfl⟩))
    replace x0 := (show (w1.drewN nq).cell? _ = _ from x0)
    replace x1 := (show (w1.drewN nq).cell? _ = _ from x1)
    replace x2 := (show (w1.drewN nq).cell? _ = _ from x2)
    replace x3 := (show (w1.drewN nq).cell? _ = _ from x3)
    replace x4 := (show (w1.drewN nq).cell? _ = _ from x4)
    replace x5 := (show (w1.drewN nq).cell? _ = _ from x5)
    replace x6 := (show (w1.drewN nq).cell? _ = _ from x6)
    clear k0 k1 HE1 HE2 HF1 HF2 HPZ
    generalize w1.drewN nq = w2 at HS HR HB x0 x1 x2 x3 x4 x5 x6 ⊢
    go_wp2_with fail
    obtain ⟨sa, sc, ga, gc, -, ⟨k1, -⟩, -, -, -, -, -⟩ := HR.out.ats
    have hK := (show (fun W : World => W.cell? ⟨Br, 1, none⟩ = some (.int .i64 s.next) ∧ W.cell? ⟨Xb, 0, none⟩ = some (.int .i64 c.kind) ∧ W.cell? ⟨Xb, 1, none⟩ = some (.int .i64 c.n) ∧ W.cell? ⟨Xb, 2, none⟩ = some (.int .i64 c.a.1) ∧ W.cell? ⟨Xb, 3, none⟩ = some (.int .i64 c.a.2) ∧ W.cell? ⟨Xb, 4, none⟩ = some (.int .i64 c.b.1) ∧ W.cell? ⟨Xb, 5, none⟩ = some (.int .i64 c.b.2) ∧ W.cell? ⟨Xb, 6, none⟩ = some (.bool false)) w2 from ⟨k1, x0, x1, x2, x3, x4, x5, x6⟩)
    clear k1 x0 x1 x2 x3 x4 x5 x6
    refine wp_region_held_drew (S := (fun W : World => W.cell? ⟨Br, 1, none⟩ = some (.int .i64 s.next) ∧ W.cell? ⟨Xb, 0, none⟩ = some (.int .i64 c.kind) ∧ W.cell? ⟨Xb, 1, none⟩ = some (.int .i64 c.n) ∧ W.cell? ⟨Xb, 2, none⟩ = some (.int .i64 c.a.1) ∧ W.cell? ⟨Xb, 3, none⟩ = some (.int .i64 c.a.2) ∧ W.cell? ⟨Xb, 4, none⟩ = some (.int .i64 c.b.1) ∧ W.cell? ⟨Xb, 5, none⟩ = some (.int .i64 c.b.2) ∧ W.cell? ⟨Xb, 6, none⟩ = some (.bool false))) (by kernel_rfl) (hK) (fun hHeld => ?_)
    clear hK
    replace HS := Lib.hid (HS.out.below (Below.refl _ w2).drew)
    replace HR := Lib.hid (HR.out.below (Below.refl _ w2).drew)
    replace HB := Lib.hid HB.out.drew
    generalize w2.drew = w3 at HS HR HB hHeld ⊢
    refine wpAnyH_take (i := 0) (v := ?_) (by simp only [List.getElem?_toArray, List.getElem?_cons_zero]; rfl) (by kernel_rfl) (by kernel_rfl) (by kernel_rfl) (by exact fun _ _ _ h => h) (Or.inl ⟨by rfl, ?_⟩) (by assumption) ?_
    rotate_left 1
    · intro w hSw; (obtain ⟨z, z0, z1, z2, z3, z4, z5, z6⟩ := hSw); go_simp; (try with_reducible rfl)
    (try simp only [Act.put, List.setIfInBounds_toArray, List.set_cons_zero, List.set_cons_succ])
    refine wpAnyH_take (i := 1) (v := ?_) (by simp only [List.getElem?_toArray, List.getElem?_cons_succ, List.getElem?_cons_zero]; rfl) (by kernel_rfl) (by kernel_rfl) (by kernel_rfl) (by exact fun _ _ _ h => h) (Or.inl ⟨by rfl, ?_⟩) (by assumption) ?_
    rotate_left 1
    · intro w hSw; (obtain ⟨z, z0, z1, z2, z3, z4, z5, z6⟩ := hSw); go_simp; (try with_reducible rfl)
    (try simp only [Act.put, List.setIfInBounds_toArray, List.set_cons_zero, List.set_cons_succ])
    refine wpAnyH_take (i := 2) (v := ?_) (by simp only [List.getElem?_toArray, List.getElem?_cons_succ, List.getElem?_cons_zero]; rfl) (by kernel_rfl) (by kernel_rfl) (by kernel_rfl) (by exact fun _ _ _ h => h) (Or.inl ⟨by rfl, ?_⟩) (by assumption) ?_
    rotate_left 1
    · intro w hSw; (obtain ⟨z, z0, z1, z2, z3, z4, z5, z6⟩ := hSw); go_simp; (try with_reducible rfl)
    (try simp only [Act.put, List.setIfInBounds_toArray, List.set_cons_zero, List.set_cons_succ])
    refine wpAnyH_take (i := 3) (v := ?_) (by simp only [List.getElem?_toArray, List.getElem?_cons_succ, List.getElem?_cons_zero]; rfl) (by kernel_rfl) (by kernel_rfl) (by kernel_rfl) (by exact fun _ _ _ h => h) (Or.inl ⟨by rfl, ?_⟩) (by assumption) ?_
    rotate_left 1
    · intro w hSw; (obtain ⟨z, z0, z1, z2, z3, z4, z5, z6⟩ := hSw); go_simp; (try with_reducible rfl)
    (try simp only [Act.put, List.setIfInBounds_toArray, List.set_cons_zero, List.set_cons_succ])
    refine wpAnyH_take (i := 4) (v := ?_) (by simp only [List.getElem?_toArray, List.getElem?_cons_succ, List.getElem?_cons_zero]; rfl) (by kernel_rfl) (by kernel_rfl) (by kernel_rfl) (by exact fun _ _ _ h => h) (Or.inl ⟨by rfl, ?_⟩) (by assumption) ?_
    rotate_left 1
    · intro w hSw; (obtain ⟨z, z0, z1, z2, z3, z4, z5, z6⟩ := hSw); go_simp; (try with_reducible rfl)
    (try simp only [Act.put, List.setIfInBounds_toArray, List.set_cons_zero, List.set_cons_succ])
    have hHeld0 := hHeld
    refine wpAnyH_ready (rs := [5]) (by kernel_rfl) (by simp) ?_
    refine AllReadyH.cons (by simp only [List.getElem?_toArray, List.getElem?_cons_succ, List.getElem?_cons_zero]; rfl) (fun Kq hKq => ?_) AllReadyH.nil
    go_simp
    refine (spans_any c s.next w3 HI.out (by omega)).mono ?_
    rintro e w4 ⟨v, rfl, hO, hb⟩
    have hK4 := (show (fun W : World => W.cell? ⟨Br, 1, none⟩ = some (.int .i64 s.next) ∧ W.cell? ⟨Xb, 0, none⟩ = some (.int .i64 c.kind) ∧ W.cell? ⟨Xb, 1, none⟩ = some (.int .i64 c.n) ∧ W.cell? ⟨Xb, 2, none⟩ = some (.int .i64 c.a.1) ∧ W.cell? ⟨Xb, 3, none⟩ = some (.int .i64 c.a.2) ∧ W.cell? ⟨Xb, 4, none⟩ = some (.int .i64 c.b.1) ∧ W.cell? ⟨Xb, 5, none⟩ = some (.int .i64 c.b.2) ∧ W.cell? ⟨Xb, 6, none⟩ = some (.bool false)) w4 from ⟨cell_bel2 hHeld0.1 (block_lt_of_cell hHeld0.1) hb, cell_bel2 hHeld0.2.1 (block_lt_of_cell hHeld0.2.1) hb, cell_bel2 hHeld0.2.2.1 (block_lt_of_cell hHeld0.2.2.1) hb, cell_bel2 hHeld0.2.2.2.1 (block_lt_of_cell hHeld0.2.2.2.1) hb, cell_bel2 hHeld0.2.2.2.2.1 (block_lt_of_cell hHeld0.2.2.2.2.1) hb, cell_bel2 hHeld0.2.2.2.2.2.1 (block_lt_of_cell hHeld0.2.2.2.2.2.1) hb, cell_bel2 hHeld0.2.2.2.2.2.2.1 (block_lt_of_cell hHeld0.2.2.2.2.2.2.1) hb, cell_bel2 hHeld0.2.2.2.2.2.2.2 (block_lt_of_cell hHeld0.2.2.2.2.2.2.2) hb⟩)
    have hsl := spansL_len c s.next
    obtain ⟨va, vc, rfl, hsp, -, hap⟩ := hO.at (by omega)
    have hil : InL Bs va (spansL c s.next) w4 := ⟨hsp, fun _ ad e => by have := (hap ad e).1; have := HS.out.lt; omega⟩
    have hnr : ∀ ad, va = some ad → ad.block ≠ Br := fun ad e => by have := (hap ad e).1; have := HR.out.lt; omega
    have HL := Lib.hid hil
    have HNR := Lib.hid hnr
    replace HS := Lib.hid (HS.out.below hb)
    replace HR := Lib.hid (HR.out.below hb)
    replace HB := Lib.hid (HB.out.trans (hb.mono (Nat.le_trans hN HB.out.size)))
    clear hb hO hsp hap hil hnr hHeld0
    go_simp
    refine hKq.out _ _ (hK4) (fun hHeld2 => ?_)
    clear hKq Kq hHeld
    (try simp only [Act.put, List.setIfInBounds_toArray, List.set_cons_zero, List.set_cons_succ])
    have hHeld := hHeld2
    clear hHeld2
    refine wpAnyH_take (i := 6) (v := ?_) (by simp only [List.getElem?_toArray, List.getElem?_cons_succ, List.getElem?_cons_zero]; rfl) (by kernel_rfl) (by kernel_rfl) (by kernel_rfl) (by exact fun _ _ _ h => h) (Or.inl ⟨by rfl, ?_⟩) (by assumption) ?_
    rotate_left 1
    · intro w hSw; (obtain ⟨z, z0, z1, z2, z3, z4, z5, z6⟩ := hSw); go_simp; (try with_reducible rfl)
    (try simp only [Act.put, List.setIfInBounds_toArray, List.set_cons_zero, List.set_cons_succ])
    refine wpAnyH_done (by kernel_rfl) ?_ _
    clear hHeld hK4
    have HSL := Lib.hid (show (s.sk ++ spansL c s.next).length ≤ 1099511627776 by have := canonF_len2 (n := s.next) HOK.out.csk (fun i hi => (HOK.out.msk i hi).2); rw [List.length_append]; omega)
    generalize spansL c s.next = LL at HL HSL hsl ⊢
    go_wp2_with fail
    refine (scacked_any Bs lb s (s.una + p) va vc LL w4 HOK.out HS.out HL.out HSL.out).mono ?_
    rintro e w5 ⟨rfl, hS, hc⟩
    replace HL := Lib.hid (show InL Br va LL w5 from ⟨(HL.out.chg hc).1, fun _ ad e => HNR.out ad e⟩)
    replace HR := Lib.hid (HR.out.other hc (by omega) (by omega))
    replace HB := Lib.hid (HB.out.trans (hc.below hNs HS.out.lt))
    replace HS := Lib.hid hS
    clear hS hc
    go_wp2_with fail
    refine (rcacked_any Br lb s (s.una + p) va vc LL w5 HOK.out HR.out HL.out).mono ?_
    rintro e w6 ⟨rfl, hS, hc⟩
    replace HS := Lib.hid (HS.out.other hc (by omega) (by omega))
    replace HB := Lib.hid (HB.out.trans (hc.below hNr HR.out.lt))
    replace HR := Lib.hid hS
    clear hS hc
    go_wp2_with fail
    go_ret
    exact ⟨s.acked (s.una + p) LL, by simp, HOK.out.acked _ _, by unfold Sc.acked; split; (show s.next ≤ _; omega); omega, HS.out, HR.out, HB.out⟩
  · obtain ⟨M, hM⟩ : ∃ M, M = (s.next - s.una) / 2 + 1 := ⟨_, rfl⟩
    have hu0 := HOK.out.u0
    have hu1 := HOK.out.un
    have HPZ := Lib.hid (fun W => pick_any (c.n.tdiv 3) M W (i64_tdiv3 HI.out.2.1) (by omega) (by omega))
    have hp := pickV_bd (c.n.tdiv 3) M (by omega)
    generalize pickV (c.n.tdiv 3) M = p at HPZ hp ⊢
    have HE1 := Lib.hid (show IntKind.i64.wrap (c.n.tdiv 3) = c.n.tdiv 3 from IntWalk.i64_in _ (i64_tdiv3 HI.out.2.1))
    have HE2 := Lib.hid (show IntKind.i64.wrap (max (IntKind.i64.wrap ((IntKind.i64.wrap (s.next - s.una)).tdiv 2)) 0 + 1) = M by rw [IntWalk.i64_in (s.next - s.una) (by omega), tdiv2 (by omega), IntWalk.i64_in ((s.next - s.una) / 2) (by omega), IntWalk.i64_in (max ((s.next - s.una) / 2) 0 + 1) (by omega)]; omega)
    have HF1 := Lib.hid (show wrap64 (c.n.tdiv 3) = c.n.tdiv 3 from wrap64_in (i64_tdiv3 HI.out.2.1))
    have HF2 := Lib.hid (show wrap64 (max (wrap64 ((wrap64 (s.next - s.una)).tdiv 2)) 0 + 1) = M by rw [wrap64_in (n := s.next - s.una) (by unfold I64; omega), tdiv2 (by omega), wrap64_in (n := (s.next - s.una) / 2) (by unfold I64; omega), wrap64_in (n := max ((s.next - s.una) / 2) 0 + 1) (by unfold I64; omega)]; omega)
    have hpm : s.una + p ≤ s.next := by omega
    clear hM
    obtain ⟨sa, sc, ga, gc, ⟨k0, -⟩, ⟨k1, -⟩, -, -, -, -, -⟩ := HR.out.ats
    go_wp2_with fail
    go_quiet (first | (rw [HE1.out, HE2.out]; exact qsc (HPZ.out _)) | (rw [HF1.out, HF2.out]; exact qsc (HPZ.out _)))
    replace HS := Lib.hid (HS.out.below (show Below w1.heap.size w1 (w1.drewN nq) from ⟨rfl, rfl, rfl, Nat.le_refl _, fun _ _ => rfl⟩))
    replace HR := Lib.hid (HR.out.below (show Below w1.heap.size w1 (w1.drewN nq) from ⟨rfl, rfl, rfl, Nat.le_refl _, fun _ _ => rfl⟩))
    replace HB := Lib.hid (HB.out.trans (show Below N w1 (w1.drewN nq) from ⟨rfl, rfl, rfl, Nat.le_refl _, fun _ _ => rfl⟩))
    replace x0 := (show (w1.drewN nq).cell? _ = _ from x0)
    replace x1 := (show (w1.drewN nq).cell? _ = _ from x1)
    replace x2 := (show (w1.drewN nq).cell? _ = _ from x2)
    replace x3 := (show (w1.drewN nq).cell? _ = _ from x3)
    replace x4 := (show (w1.drewN nq).cell? _ = _ from x4)
    replace x5 := (show (w1.drewN nq).cell? _ = _ from x5)
    replace x6 := (show (w1.drewN nq).cell? _ = _ from x6)
    clear k0 k1 HE1 HE2 HF1 HF2 HPZ
    generalize w1.drewN nq = w2 at HS HR HB x0 x1 x2 x3 x4 x5 x6 ⊢
    go_wp2_with fail
    obtain ⟨sa, sc, ga, gc, -, ⟨k1, -⟩, -, -, -, -, -⟩ := HR.out.ats
    have hK := (show (fun W : World => W.cell? ⟨Br, 1, none⟩ = some (.int .i64 s.next) ∧ W.cell? ⟨Xb, 0, none⟩ = some (.int .i64 c.kind) ∧ W.cell? ⟨Xb, 1, none⟩ = some (.int .i64 c.n) ∧ W.cell? ⟨Xb, 2, none⟩ = some (.int .i64 c.a.1) ∧ W.cell? ⟨Xb, 3, none⟩ = some (.int .i64 c.a.2) ∧ W.cell? ⟨Xb, 4, none⟩ = some (.int .i64 c.b.1) ∧ W.cell? ⟨Xb, 5, none⟩ = some (.int .i64 c.b.2) ∧ W.cell? ⟨Xb, 6, none⟩ = some (.bool false)) w2 from ⟨k1, x0, x1, x2, x3, x4, x5, x6⟩)
    clear k1 x0 x1 x2 x3 x4 x5 x6
    refine wp_region_held_drew (S := (fun W : World => W.cell? ⟨Br, 1, none⟩ = some (.int .i64 s.next) ∧ W.cell? ⟨Xb, 0, none⟩ = some (.int .i64 c.kind) ∧ W.cell? ⟨Xb, 1, none⟩ = some (.int .i64 c.n) ∧ W.cell? ⟨Xb, 2, none⟩ = some (.int .i64 c.a.1) ∧ W.cell? ⟨Xb, 3, none⟩ = some (.int .i64 c.a.2) ∧ W.cell? ⟨Xb, 4, none⟩ = some (.int .i64 c.b.1) ∧ W.cell? ⟨Xb, 5, none⟩ = some (.int .i64 c.b.2) ∧ W.cell? ⟨Xb, 6, none⟩ = some (.bool false))) (by kernel_rfl) (hK) (fun hHeld => ?_)
    clear hK
    replace HS := Lib.hid (HS.out.below (Below.refl _ w2).drew)
    replace HR := Lib.hid (HR.out.below (Below.refl _ w2).drew)
    replace HB := Lib.hid HB.out.drew
    generalize w2.drew = w3 at HS HR HB hHeld ⊢
    refine wpAnyH_take (i := 0) (v := ?_) (by simp only [List.getElem?_toArray, List.getElem?_cons_zero]; rfl) (by kernel_rfl) (by kernel_rfl) (by kernel_rfl) (by exact fun _ _ _ h => h) (Or.inl ⟨by rfl, ?_⟩) (by assumption) ?_
    rotate_left 1
    · intro w hSw; (obtain ⟨z, z0, z1, z2, z3, z4, z5, z6⟩ := hSw); go_simp; (try with_reducible rfl)
    (try simp only [Act.put, List.setIfInBounds_toArray, List.set_cons_zero, List.set_cons_succ])
    refine wpAnyH_take (i := 1) (v := ?_) (by simp only [List.getElem?_toArray, List.getElem?_cons_succ, List.getElem?_cons_zero]; rfl) (by kernel_rfl) (by kernel_rfl) (by kernel_rfl) (by exact fun _ _ _ h => h) (Or.inl ⟨by rfl, ?_⟩) (by assumption) ?_
    rotate_left 1
    · intro w hSw; (obtain ⟨z, z0, z1, z2, z3, z4, z5, z6⟩ := hSw); go_simp; (try with_reducible rfl)
    (try simp only [Act.put, List.setIfInBounds_toArray, List.set_cons_zero, List.set_cons_succ])
    refine wpAnyH_take (i := 2) (v := ?_) (by simp only [List.getElem?_toArray, List.getElem?_cons_succ, List.getElem?_cons_zero]; rfl) (by kernel_rfl) (by kernel_rfl) (by kernel_rfl) (by exact fun _ _ _ h => h) (Or.inl ⟨by rfl, ?_⟩) (by assumption) ?_
    rotate_left 1
    · intro w hSw; (obtain ⟨z, z0, z1, z2, z3, z4, z5, z6⟩ := hSw); go_simp; (try with_reducible rfl)
    (try simp only [Act.put, List.setIfInBounds_toArray, List.set_cons_zero, List.set_cons_succ])
    refine wpAnyH_take (i := 3) (v := ?_) (by simp only [List.getElem?_toArray, List.getElem?_cons_succ, List.getElem?_cons_zero]; rfl) (by kernel_rfl) (by kernel_rfl) (by kernel_rfl) (by exact fun _ _ _ h => h) (Or.inl ⟨by rfl, ?_⟩) (by assumption) ?_
    rotate_left 1
    · intro w hSw; (obtain ⟨z, z0, z1, z2, z3, z4, z5, z6⟩ := hSw); go_simp; (try with_reducible rfl)
    (try simp only [Act.put, List.setIfInBounds_toArray, List.set_cons_zero, List.set_cons_succ])
    refine wpAnyH_take (i := 4) (v := ?_) (by simp only [List.getElem?_toArray, List.getElem?_cons_succ, List.getElem?_cons_zero]; rfl) (by kernel_rfl) (by kernel_rfl) (by kernel_rfl) (by exact fun _ _ _ h => h) (Or.inl ⟨by rfl, ?_⟩) (by assumption) ?_
    rotate_left 1
    · intro w hSw; (obtain ⟨z, z0, z1, z2, z3, z4, z5, z6⟩ := hSw); go_simp; (try with_reducible rfl)
    (try simp only [Act.put, List.setIfInBounds_toArray, List.set_cons_zero, List.set_cons_succ])
    have hHeld0 := hHeld
    refine wpAnyH_ready (rs := [5]) (by kernel_rfl) (by simp) ?_
    refine AllReadyH.cons (by simp only [List.getElem?_toArray, List.getElem?_cons_succ, List.getElem?_cons_zero]; rfl) (fun Kq hKq => ?_) AllReadyH.nil
    go_simp
    refine (spans_any c s.next w3 HI.out (by omega)).mono ?_
    rintro e w4 ⟨v, rfl, hO, hb⟩
    have hK4 := (show (fun W : World => W.cell? ⟨Br, 1, none⟩ = some (.int .i64 s.next) ∧ W.cell? ⟨Xb, 0, none⟩ = some (.int .i64 c.kind) ∧ W.cell? ⟨Xb, 1, none⟩ = some (.int .i64 c.n) ∧ W.cell? ⟨Xb, 2, none⟩ = some (.int .i64 c.a.1) ∧ W.cell? ⟨Xb, 3, none⟩ = some (.int .i64 c.a.2) ∧ W.cell? ⟨Xb, 4, none⟩ = some (.int .i64 c.b.1) ∧ W.cell? ⟨Xb, 5, none⟩ = some (.int .i64 c.b.2) ∧ W.cell? ⟨Xb, 6, none⟩ = some (.bool false)) w4 from ⟨cell_bel2 hHeld0.1 (block_lt_of_cell hHeld0.1) hb, cell_bel2 hHeld0.2.1 (block_lt_of_cell hHeld0.2.1) hb, cell_bel2 hHeld0.2.2.1 (block_lt_of_cell hHeld0.2.2.1) hb, cell_bel2 hHeld0.2.2.2.1 (block_lt_of_cell hHeld0.2.2.2.1) hb, cell_bel2 hHeld0.2.2.2.2.1 (block_lt_of_cell hHeld0.2.2.2.2.1) hb, cell_bel2 hHeld0.2.2.2.2.2.1 (block_lt_of_cell hHeld0.2.2.2.2.2.1) hb, cell_bel2 hHeld0.2.2.2.2.2.2.1 (block_lt_of_cell hHeld0.2.2.2.2.2.2.1) hb, cell_bel2 hHeld0.2.2.2.2.2.2.2 (block_lt_of_cell hHeld0.2.2.2.2.2.2.2) hb⟩)
    have hsl := spansL_len c s.next
    obtain ⟨va, vc, rfl, hsp, -, hap⟩ := hO.at (by omega)
    have hil : InL Bs va (spansL c s.next) w4 := ⟨hsp, fun _ ad e => by have := (hap ad e).1; have := HS.out.lt; omega⟩
    have hnr : ∀ ad, va = some ad → ad.block ≠ Br := fun ad e => by have := (hap ad e).1; have := HR.out.lt; omega
    have HL := Lib.hid hil
    have HNR := Lib.hid hnr
    replace HS := Lib.hid (HS.out.below hb)
    replace HR := Lib.hid (HR.out.below hb)
    replace HB := Lib.hid (HB.out.trans (hb.mono (Nat.le_trans hN HB.out.size)))
    clear hb hO hsp hap hil hnr hHeld0
    go_simp
    refine hKq.out _ _ (hK4) (fun hHeld2 => ?_)
    clear hKq Kq hHeld
    (try simp only [Act.put, List.setIfInBounds_toArray, List.set_cons_zero, List.set_cons_succ])
    have hHeld := hHeld2
    clear hHeld2
    refine wpAnyH_take (i := 6) (v := ?_) (by simp only [List.getElem?_toArray, List.getElem?_cons_succ, List.getElem?_cons_zero]; rfl) (by kernel_rfl) (by kernel_rfl) (by kernel_rfl) (by exact fun _ _ _ h => h) (Or.inl ⟨by rfl, ?_⟩) (by assumption) ?_
    rotate_left 1
    · intro w hSw; (obtain ⟨z, z0, z1, z2, z3, z4, z5, z6⟩ := hSw); go_simp; (try with_reducible rfl)
    (try simp only [Act.put, List.setIfInBounds_toArray, List.set_cons_zero, List.set_cons_succ])
    refine wpAnyH_done (by kernel_rfl) ?_ _
    clear hHeld hK4
    have HSL := Lib.hid (show (s.sk ++ spansL c s.next).length ≤ 1099511627776 by have := canonF_len2 (n := s.next) HOK.out.csk (fun i hi => (HOK.out.msk i hi).2); rw [List.length_append]; omega)
    generalize spansL c s.next = LL at HL HSL hsl ⊢
    go_wp2_with fail
    refine (scacked_any Bs lb s (s.una + p) va vc LL w4 HOK.out HS.out HL.out HSL.out).mono ?_
    rintro e w5 ⟨rfl, hS, hc⟩
    replace HL := Lib.hid (show InL Br va LL w5 from ⟨(HL.out.chg hc).1, fun _ ad e => HNR.out ad e⟩)
    replace HR := Lib.hid (HR.out.other hc (by omega) (by omega))
    replace HB := Lib.hid (HB.out.trans (hc.below hNs HS.out.lt))
    replace HS := Lib.hid hS
    clear hS hc
    go_wp2_with fail
    refine (rcacked_any Br lb s (s.una + p) va vc LL w5 HOK.out HR.out HL.out).mono ?_
    rintro e w6 ⟨rfl, hS, hc⟩
    replace HS := Lib.hid (HS.out.other hc (by omega) (by omega))
    replace HB := Lib.hid (HB.out.trans (hc.below hNr HR.out.lt))
    replace HR := Lib.hid hS
    clear hS hc
    go_wp2_with fail
    go_ret
    exact ⟨s.acked (s.una + p) LL, by simp, HOK.out.acked _ _, by unfold Sc.acked; split; (show s.next ≤ _; omega); omega, HS.out, HR.out, HB.out⟩
  · have HS1 := HS
    have HR1 := HR
    have HB1 := HB
    go_wp2_with fail
    have hby := rcBel w1 (.cells #[.int .i64 c.a.1, .int .i64 c.a.2] 51)
    have y0 : (w1.alloc (.cells #[.int .i64 c.a.1, .int .i64 c.a.2] 51)).cell? ⟨w1.heap.size, 0, none⟩ = some (.int .i64 c.a.1) := (At.new _ rfl rfl).1
    have y1 : (w1.alloc (.cells #[.int .i64 c.a.1, .int .i64 c.a.2] 51)).cell? ⟨w1.heap.size, 1, none⟩ = some (.int .i64 c.a.2) := (At.new _ rfl rfl).1
    have g0 : (w1.alloc (.cells #[.int .i64 c.a.1, .int .i64 c.a.2] 51)).frozen? ⟨w1.heap.size, 0, none⟩ = false := (At.new (v := .int .i64 c.a.1) (vs := #[.int .i64 c.a.1, .int .i64 c.a.2]) _ rfl rfl).2
    have g1 : (w1.alloc (.cells #[.int .i64 c.a.1, .int .i64 c.a.2] 51)).frozen? ⟨w1.heap.size, 1, none⟩ = false := (At.new (v := .int .i64 c.a.2) (vs := #[.int .i64 c.a.1, .int .i64 c.a.2]) _ rfl rfl).2
    replace x1 := cell_bel2 x1 hXs hby
    replace x6 := cell_bel2 x6 hXs hby
    have HBY := Lib.hid hby
    obtain ⟨Yb, hYb⟩ : ∃ Yb, Yb = w1.heap.size := ⟨_, rfl⟩
    rw [← hYb] at y0 y1 g0 g1 HBY ⊢
    have HYE := Lib.hid hYb
    have hYB : Yb ≠ Bs ∧ Yb ≠ Br := ⟨by have := HS.out.lt; omega, by have := HR.out.lt; omega⟩
    have hYN : N ≤ Yb := by have := HB.out.size; omega
    have hYs : Yb < (w1.alloc (.cells #[.int .i64 c.a.1, .int .i64 c.a.2] 51)).heap.size := by rw [hYb]; simp
    replace hXs : Xb < (w1.alloc (.cells #[.int .i64 c.a.1, .int .i64 c.a.2] 51)).heap.size := by simp; omega
    replace HS := Lib.hid (HS.out.below hby)
    replace HR := Lib.hid (HR.out.below hby)
    replace HB := Lib.hid (HB.out.trans (hby.mono (Nat.le_trans hN HB.out.size)))
    clear hby hYb x0 x2 x3 x4 x5
    generalize w1.alloc (.cells #[.int .i64 c.a.1, .int .i64 c.a.2] 51) = w2 at HS HR HB HBY x1 x6 y0 y1 g0 g1 hXs hYs ⊢
    refine (rclost_any Br lb s 10 w2 HOK.out HR.out (by omega) (by omega)).mono ?_
    rintro e w3 ⟨v, rfl, hO, hb⟩
    have y0' := (show At Yb 0 _ w2 from ⟨y0, g0⟩).below hb hYs
    have y1' := (show At Yb 1 _ w2 from ⟨y1, g1⟩).below hb hYs
    clear y0 y1 g0 g1
    obtain ⟨y0, g0⟩ := y0'
    obtain ⟨y1, g1⟩ := y1'
    replace x1 := cell_bel2 x1 hXs hb
    replace x6 := cell_bel2 x6 hXs hb
    have hlok := (lost_spec HOK.out (m := 10) (by omega)).1
    have hln := canonF_len hlok
    have hlx : ∀ x ∈ s.lost 10, x.1 < x.2 ∧ 0 ≤ x.1 ∧ x.2 ≤ 1099511627776 := fun x hx => by have := canonF_ok hlok x hx; unfold okS at this; omega
    obtain ⟨la, lc, rfl, hsp, -, -⟩ := hO.at hln
    have HLX := Lib.hid hlx
    have HSP := Lib.hid hsp
    replace HS := Lib.hid (HS.out.below hb)
    replace HR := Lib.hid (HR.out.below hb)
    replace HB := Lib.hid (HB.out.trans (hb.mono (Nat.le_trans hN HB.out.size)))
    replace HBY := Lib.hid (HBY.out.trans (hb.mono (by omega)))
    clear hO hb hsp hlok hlx
    generalize s.lost 10 = LL at HLX HSP hln ⊢
    rcases Nat.eq_zero_or_pos LL.length with hz | hz
    · have hz2 : ¬ (0 : Int) < (LL.length : Int) := by omega
      clear g0 g1
      go_wp2_with fail
      have hK := (show (fun W : World => W.cell? ⟨Yb, 0, none⟩ = some (.int .i64 c.a.1) ∧ W.cell? ⟨Yb, 1, none⟩ = some (.int .i64 c.a.2)) w3 from ⟨y0, y1⟩)
      clear y0 y1
      refine wp_region_held_drew (S := (fun W : World => W.cell? ⟨Yb, 0, none⟩ = some (.int .i64 c.a.1) ∧ W.cell? ⟨Yb, 1, none⟩ = some (.int .i64 c.a.2))) (by kernel_rfl) (hK) (fun hHeld => ?_)
      clear hK
      replace HS := Lib.hid (HS.out.below (Below.refl _ w3).drew)
      replace HR := Lib.hid (HR.out.below (Below.refl _ w3).drew)
      replace HB := Lib.hid HB.out.drew
      generalize w3.drew = w7 at HS HR HB hHeld ⊢
      refine wpAnyH_take (i := 0) (v := ?_) (by simp only [List.getElem?_toArray, List.getElem?_cons_zero]; rfl) (by kernel_rfl) (by kernel_rfl) (by kernel_rfl) (by exact fun _ _ _ h => h) (Or.inl ⟨by rfl, ?_⟩) (by assumption) ?_
      rotate_left 1
      · intro w hSw; (obtain ⟨z0, z1⟩ := hSw); go_simp; (try with_reducible rfl)
      (try simp only [Act.put, List.setIfInBounds_toArray, List.set_cons_zero, List.set_cons_succ])
      refine wpAnyH_take (i := 1) (v := ?_) (by simp only [List.getElem?_toArray, List.getElem?_cons_succ, List.getElem?_cons_zero]; rfl) (by kernel_rfl) (by kernel_rfl) (by kernel_rfl) (by exact fun _ _ _ h => h) (Or.inl ⟨by rfl, ?_⟩) (by assumption) ?_
      rotate_left 1
      · intro w hSw; (obtain ⟨z0, z1⟩ := hSw); go_simp; (try with_reducible rfl)
      (try simp only [Act.put, List.setIfInBounds_toArray, List.set_cons_zero, List.set_cons_succ])
      refine wpAnyH_take (i := 3) (v := ?_) (by simp only [List.getElem?_toArray, List.getElem?_cons_succ, List.getElem?_cons_zero]; rfl) (by kernel_rfl) (by kernel_rfl) (by kernel_rfl) (by exact fun _ _ _ h => h) (Or.inl ⟨by rfl, ?_⟩) (by assumption) ?_
      rotate_left 1
      · intro w hSw; (obtain ⟨z0, z1⟩ := hSw); go_simp; (try with_reducible rfl)
      (try simp only [Act.put, List.setIfInBounds_toArray, List.set_cons_zero, List.set_cons_succ])
      refine wpAnyH_take (i := 4) (v := ?_) (by simp only [List.getElem?_toArray, List.getElem?_cons_succ, List.getElem?_cons_zero]; rfl) (by kernel_rfl) (by kernel_rfl) (by kernel_rfl) (by exact fun _ _ _ h => h) (Or.inl ⟨by rfl, ?_⟩) (by assumption) ?_
      rotate_left 1
      · intro w hSw; (obtain ⟨z0, z1⟩ := hSw); go_simp; (try with_reducible rfl)
      (try simp only [Act.put, List.setIfInBounds_toArray, List.set_cons_zero, List.set_cons_succ])
      have hHeld0 := hHeld
      refine wpAnyH_ready (rs := [2]) (by kernel_rfl) (by simp) ?_
      refine AllReadyH.cons (by simp only [List.getElem?_toArray, List.getElem?_cons_succ, List.getElem?_cons_zero]; rfl) (fun Kq hKq => ?_) AllReadyH.nil
      go_simp
      refine (scretransmitted_any Bs lb s c.a.1 c.a.2 w7 HOK.out HS.out).mono ?_
      rintro e w8 ⟨rfl, hS, hc⟩
      have hK8 := (show (fun W : World => W.cell? ⟨Yb, 0, none⟩ = some (.int .i64 c.a.1) ∧ W.cell? ⟨Yb, 1, none⟩ = some (.int .i64 c.a.2)) w8 from ⟨cell_chg hHeld0.1 hc hYB.1, cell_chg hHeld0.2 hc hYB.1⟩)
      replace HR := Lib.hid (HR.out.other hc (by omega) (by omega))
      replace HB := Lib.hid (HB.out.trans (hc.below hNs HS.out.lt))
      replace HS := Lib.hid hS
      clear hS hc hHeld0
      go_simp
      refine hKq.out _ _ (hK8) (fun hHeld2 => ?_)
      clear hKq Kq hHeld
      (try simp only [Act.put, List.setIfInBounds_toArray, List.set_cons_zero, List.set_cons_succ])
      have hHeld := hHeld2
      clear hHeld2
      have hHeld0 := hHeld
      clear hK8
      refine wpAnyH_ready (rs := [5]) (by kernel_rfl) (by simp) ?_
      refine AllReadyH.cons (by simp only [List.getElem?_toArray, List.getElem?_cons_succ, List.getElem?_cons_zero]; rfl) (fun Kq hKq => ?_) AllReadyH.nil
      go_simp
      refine (rcret_any Br lb s c.a.1 c.a.2 w8 HOK.out HR.out).mono ?_
      rintro e w9 ⟨rfl, hS, hc⟩
      have hK9 := (show (fun W : World => W.cell? ⟨Yb, 0, none⟩ = some (.int .i64 c.a.1) ∧ W.cell? ⟨Yb, 1, none⟩ = some (.int .i64 c.a.2)) w9 from ⟨cell_chg hHeld0.1 hc hYB.2, cell_chg hHeld0.2 hc hYB.2⟩)
      replace HS := Lib.hid (HS.out.other hc (by omega) (by omega))
      replace HB := Lib.hid (HB.out.trans (hc.below hNr HR.out.lt))
      replace HR := Lib.hid hS
      clear hS hc hHeld0
      go_simp
      refine hKq.out _ _ (hK9) (fun hHeld2 => ?_)
      clear hKq Kq hHeld
      (try simp only [Act.put, List.setIfInBounds_toArray, List.set_cons_zero, List.set_cons_succ])
      have hHeld := hHeld2
      clear hHeld2
      refine wpAnyH_take (i := 6) (v := ?_) (by simp only [List.getElem?_toArray, List.getElem?_cons_succ, List.getElem?_cons_zero]; rfl) (by kernel_rfl) (by kernel_rfl) (by kernel_rfl) (by exact fun _ _ _ h => h) (Or.inl ⟨by rfl, ?_⟩) (by assumption) ?_
      rotate_left 1
      · intro w hSw; (obtain ⟨z0, z1⟩ := hSw); go_simp; (try with_reducible rfl)
      (try simp only [Act.put, List.setIfInBounds_toArray, List.set_cons_zero, List.set_cons_succ])
      refine wpAnyH_take (i := 7) (v := ?_) (by simp only [List.getElem?_toArray, List.getElem?_cons_succ, List.getElem?_cons_zero]; rfl) (by kernel_rfl) (by kernel_rfl) (by kernel_rfl) (by exact fun _ _ _ h => h) (Or.inl ⟨by rfl, ?_⟩) (by assumption) ?_
      rotate_left 1
      · intro w hSw; (obtain ⟨z0, z1⟩ := hSw); go_simp; (try with_reducible rfl)
      (try simp only [Act.put, List.setIfInBounds_toArray, List.set_cons_zero, List.set_cons_succ])
      refine wpAnyH_done (by kernel_rfl) ?_ _
      clear hHeld hK9
      go_wp2_with fail
      go_ret
      exact ⟨s.ret (c.a.1, c.a.2), by simp, HOK.out.ret _, by unfold Sc.ret; split; (show s.next ≤ _; omega); omega, HS.out, HR.out, HB.out⟩
    · have HPL := Lib.hid (fun W => pick_any c.n (LL.length : Int) W HI.out.2.1 (by omega) (by omega))
      have hpb := pickV_bd c.n (LL.length : Int) (by omega)
      generalize pickV c.n (LL.length : Int) = p at HPL hpb ⊢
      obtain ⟨k, rfl⟩ : ∃ k : Nat, p = (k : Int) := ⟨p.toNat, by omega⟩
      have hkl : k < LL.length := by omega
      obtain ⟨lb1, lo1, rfl, hlb, hcs⟩ := HSP.out.cells hz
      obtain ⟨d0, d1⟩ := hcs k hkl
      have hxx := HLX.out LL[k] (List.getElem_mem hkl)
      clear hcs
      generalize LL[k] = x at d0 d1 hxx
      obtain ⟨q1, q2⟩ := x
      dsimp only at d0 d1 hxx
      have hz3 : (0 : Int) < (LL.length : Int) := by omega
      go_wp2_with fail
      refine (HPL.out _).mono ?_
      rintro e w4 ⟨rfl, rfl⟩
      go_wp2_with fail
      have y0' := (((show At Yb 0 _ w3 from ⟨y0, g0⟩).set (.int .i64 q1)).other ⟨Yb, 1, none⟩ (.int .i64 q2) (by intro e; cases e)).other ⟨Yb, 1, none⟩ (.int .i64 (min q2 (q1 + 10))) (by intro e; cases e)
      have y1' := (((show At Yb 1 _ w3 from ⟨y1, g1⟩).other ⟨Yb, 0, none⟩ (.int .i64 q1) (by intro e; cases e)).set (.int .i64 q2)).set (.int .i64 (min q2 (q1 + 10)))
      replace HBY := Lib.hid (((HBY.out.setCell (p := ⟨Yb, 0, none⟩) (Nat.le_refl _) (.int .i64 q1)).setCell (p := ⟨Yb, 1, none⟩) (Nat.le_refl _) (.int .i64 q2)).setCell (p := ⟨Yb, 1, none⟩) (Nat.le_refl _) (.int .i64 (min q2 (q1 + 10))))
      clear y0 y1 g0 g1 d0 d1 x1 x6
      generalize min q2 (q1 + 10) = q3 at HBY y0' y1' ⊢
      generalize ((w3.setCell ⟨Yb, 0, none⟩ (.int .i64 q1)).setCell ⟨Yb, 1, none⟩ (.int .i64 q2)).setCell ⟨Yb, 1, none⟩ (.int .i64 q3) = w5 at HBY y0' y1' ⊢
      have hb5 : Below w1.heap.size w1 w5 := by rw [← HYE.out]; exact HBY.out
      replace HS := Lib.hid (HS1.out.below hb5)
      replace HR := Lib.hid (HR1.out.below hb5)
      replace HB := Lib.hid (HB1.out.trans (HBY.out.mono hYN))
      clear hb5
      obtain ⟨y0, g0⟩ := y0'
      obtain ⟨y1, g1⟩ := y1'
      clear g0 g1
      have hK := (show (fun W : World => W.cell? ⟨Yb, 0, none⟩ = some (.int .i64 q1) ∧ W.cell? ⟨Yb, 1, none⟩ = some (.int .i64 q3)) w5 from ⟨y0, y1⟩)
      clear y0 y1
      refine wp_region_held_drew (S := (fun W : World => W.cell? ⟨Yb, 0, none⟩ = some (.int .i64 q1) ∧ W.cell? ⟨Yb, 1, none⟩ = some (.int .i64 q3))) (by kernel_rfl) (hK) (fun hHeld => ?_)
      clear hK
      replace HS := Lib.hid (HS.out.below (Below.refl _ w5).drew)
      replace HR := Lib.hid (HR.out.below (Below.refl _ w5).drew)
      replace HB := Lib.hid HB.out.drew
      generalize w5.drew = w7 at HS HR HB hHeld ⊢
      refine wpAnyH_take (i := 0) (v := ?_) (by simp only [List.getElem?_toArray, List.getElem?_cons_zero]; rfl) (by kernel_rfl) (by kernel_rfl) (by kernel_rfl) (by exact fun _ _ _ h => h) (Or.inl ⟨by rfl, ?_⟩) (by assumption) ?_
      rotate_left 1
      · intro w hSw; (obtain ⟨z0, z1⟩ := hSw); go_simp; (try with_reducible rfl)
      (try simp only [Act.put, List.setIfInBounds_toArray, List.set_cons_zero, List.set_cons_succ])
      refine wpAnyH_take (i := 1) (v := ?_) (by simp only [List.getElem?_toArray, List.getElem?_cons_succ, List.getElem?_cons_zero]; rfl) (by kernel_rfl) (by kernel_rfl) (by kernel_rfl) (by exact fun _ _ _ h => h) (Or.inl ⟨by rfl, ?_⟩) (by assumption) ?_
      rotate_left 1
      · intro w hSw; (obtain ⟨z0, z1⟩ := hSw); go_simp; (try with_reducible rfl)
      (try simp only [Act.put, List.setIfInBounds_toArray, List.set_cons_zero, List.set_cons_succ])
      refine wpAnyH_take (i := 3) (v := ?_) (by simp only [List.getElem?_toArray, List.getElem?_cons_succ, List.getElem?_cons_zero]; rfl) (by kernel_rfl) (by kernel_rfl) (by kernel_rfl) (by exact fun _ _ _ h => h) (Or.inl ⟨by rfl, ?_⟩) (by assumption) ?_
      rotate_left 1
      · intro w hSw; (obtain ⟨z0, z1⟩ := hSw); go_simp; (try with_reducible rfl)
      (try simp only [Act.put, List.setIfInBounds_toArray, List.set_cons_zero, List.set_cons_succ])
      refine wpAnyH_take (i := 4) (v := ?_) (by simp only [List.getElem?_toArray, List.getElem?_cons_succ, List.getElem?_cons_zero]; rfl) (by kernel_rfl) (by kernel_rfl) (by kernel_rfl) (by exact fun _ _ _ h => h) (Or.inl ⟨by rfl, ?_⟩) (by assumption) ?_
      rotate_left 1
      · intro w hSw; (obtain ⟨z0, z1⟩ := hSw); go_simp; (try with_reducible rfl)
      (try simp only [Act.put, List.setIfInBounds_toArray, List.set_cons_zero, List.set_cons_succ])
      have hHeld0 := hHeld
      refine wpAnyH_ready (rs := [2]) (by kernel_rfl) (by simp) ?_
      refine AllReadyH.cons (by simp only [List.getElem?_toArray, List.getElem?_cons_succ, List.getElem?_cons_zero]; rfl) (fun Kq hKq => ?_) AllReadyH.nil
      go_simp
      refine (scretransmitted_any Bs lb s q1 q3 w7 HOK.out HS.out).mono ?_
      rintro e w8 ⟨rfl, hS, hc⟩
      have hK8 := (show (fun W : World => W.cell? ⟨Yb, 0, none⟩ = some (.int .i64 q1) ∧ W.cell? ⟨Yb, 1, none⟩ = some (.int .i64 q3)) w8 from ⟨cell_chg hHeld0.1 hc hYB.1, cell_chg hHeld0.2 hc hYB.1⟩)
      replace HR := Lib.hid (HR.out.other hc (by omega) (by omega))
      replace HB := Lib.hid (HB.out.trans (hc.below hNs HS.out.lt))
      replace HS := Lib.hid hS
      clear hS hc hHeld0
      go_simp
      refine hKq.out _ _ (hK8) (fun hHeld2 => ?_)
      clear hKq Kq hHeld
      (try simp only [Act.put, List.setIfInBounds_toArray, List.set_cons_zero, List.set_cons_succ])
      have hHeld := hHeld2
      clear hHeld2
      have hHeld0 := hHeld
      clear hK8
      refine wpAnyH_ready (rs := [5]) (by kernel_rfl) (by simp) ?_
      refine AllReadyH.cons (by simp only [List.getElem?_toArray, List.getElem?_cons_succ, List.getElem?_cons_zero]; rfl) (fun Kq hKq => ?_) AllReadyH.nil
      go_simp
      refine (rcret_any Br lb s q1 q3 w8 HOK.out HR.out).mono ?_
      rintro e w9 ⟨rfl, hS, hc⟩
      have hK9 := (show (fun W : World => W.cell? ⟨Yb, 0, none⟩ = some (.int .i64 q1) ∧ W.cell? ⟨Yb, 1, none⟩ = some (.int .i64 q3)) w9 from ⟨cell_chg hHeld0.1 hc hYB.2, cell_chg hHeld0.2 hc hYB.2⟩)
      replace HS := Lib.hid (HS.out.other hc (by omega) (by omega))
      replace HB := Lib.hid (HB.out.trans (hc.below hNr HR.out.lt))
      replace HR := Lib.hid hS
      clear hS hc hHeld0
      go_simp
      refine hKq.out _ _ (hK9) (fun hHeld2 => ?_)
      clear hKq Kq hHeld
      (try simp only [Act.put, List.setIfInBounds_toArray, List.set_cons_zero, List.set_cons_succ])
      have hHeld := hHeld2
      clear hHeld2
      refine wpAnyH_take (i := 6) (v := ?_) (by simp only [List.getElem?_toArray, List.getElem?_cons_succ, List.getElem?_cons_zero]; rfl) (by kernel_rfl) (by kernel_rfl) (by kernel_rfl) (by exact fun _ _ _ h => h) (Or.inl ⟨by rfl, ?_⟩) (by assumption) ?_
      rotate_left 1
      · intro w hSw; (obtain ⟨z0, z1⟩ := hSw); go_simp; (try with_reducible rfl)
      (try simp only [Act.put, List.setIfInBounds_toArray, List.set_cons_zero, List.set_cons_succ])
      refine wpAnyH_take (i := 7) (v := ?_) (by simp only [List.getElem?_toArray, List.getElem?_cons_succ, List.getElem?_cons_zero]; rfl) (by kernel_rfl) (by kernel_rfl) (by kernel_rfl) (by exact fun _ _ _ h => h) (Or.inl ⟨by rfl, ?_⟩) (by assumption) ?_
      rotate_left 1
      · intro w hSw; (obtain ⟨z0, z1⟩ := hSw); go_simp; (try with_reducible rfl)
      (try simp only [Act.put, List.setIfInBounds_toArray, List.set_cons_zero, List.set_cons_succ])
      refine wpAnyH_done (by kernel_rfl) ?_ _
      clear hHeld hK9
      go_wp2_with fail
      go_ret
      exact ⟨s.ret (q1, q3), by simp, HOK.out.ret _, by unfold Sc.ret; split; (show s.next ≤ _; omega); omega, HS.out, HR.out, HB.out⟩
  · have hp := pickV_bd c.n 4 (by omega)
    go_wp2_with fail
    refine (HP4.out _).mono ?_
    rintro e w4 ⟨rfl, rfl⟩
    generalize pickV c.n 4 = p at hp ⊢
    clear x0 x1 x2 x3 x4 x5 x6
    by_cases hz : p = 0
    · subst hz
      go_wp2_with fail
      refine (sctimeout_any Bs lb s w1 HS.out).mono ?_
      rintro e w5 ⟨rfl, hS, hc⟩
      replace HR := Lib.hid (HR.out.other hc (by omega) (by omega))
      replace HB := Lib.hid (HB.out.trans (hc.below hNs HS.out.lt))
      replace HS := Lib.hid hS
      clear hS hc
      go_wp2_with fail
      refine (rctimeout_any Br lb s w5 HR.out).mono ?_
      rintro e w6 ⟨rfl, hS, hc⟩
      replace HS := Lib.hid (HS.out.other hc (by omega) (by omega))
      replace HB := Lib.hid (HB.out.trans (hc.below hNr HR.out.lt))
      replace HR := Lib.hid hS
      clear hS hc
      go_wp2_with fail
      go_ret
      exact ⟨s.timeout, rfl, HOK.out.timeout, by show s.next ≤ _; omega, HS.out, HR.out, HB.out⟩
    · have hz2 : (p == 0) = false := by simp [hz]
      go_wp2_with fail
      go_ret
      exact ⟨s, rfl, HOK.out, by omega, HS.out, HR.out, HB.out⟩
end Go.Proofs.Ytncjeleabpodaaa
