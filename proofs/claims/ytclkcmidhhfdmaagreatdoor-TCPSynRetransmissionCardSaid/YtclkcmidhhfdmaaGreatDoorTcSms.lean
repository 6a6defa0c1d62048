/- sameSegs at two lists of one and the same segment. -/
import Derived.Test.YtclkcmidhhfdmaaGreatDoorUb2
import Derived.Test.YtclkcmidhhfdmaaGreatDoorTcSsm
import Derived.Test.YtclkcmidhhfdmaaGreatDoorUb30
namespace Go.Proofs.YtclkcmidhhfdmaaGreatDoor
open Go.ChangeShapes Go.WideShapes Go.ChangeAt Go.RowKit Go.Shelf
theorem OwnG.one {w : World} {base : Nat} {v : Value} {x : SgM} (h : OwnG w base v [x]) : ∃ g cap, v = .slice (some ⟨g, 0, none⟩) 1 cap ∧ w.rangeAt g 0 (sgL x) := by
  obtain ⟨g, cap, hv, -, -, -, hc⟩ := h.cells (Nat.succ_pos 0)
  refine ⟨g, cap, hv, fun j u hj => ?_⟩
  have := hc j u (by simpa [flatG] using hj)
  rwa [Addr.add_lit] at this
theorem OwnS.one {w : World} {base : Nat} {v : Value} {s : Sg} (h : OwnS w base v [s]) : ∃ g cap a c, v = .slice (some ⟨g, 0, none⟩) 1 cap ∧ w.rangeAt g 0 (sgL (s, a, c)) ∧ BlIn w a s.bl ∧ OwnG w base v [(s, a, c)] := by
  obtain ⟨M, e, hM⟩ := h
  rcases M with _ | ⟨⟨s', a, c⟩, _ | ⟨y, M⟩⟩
  · cases e
  · have e1 : s' = s := (List.cons.inj e).1
    subst e1
    obtain ⟨g, cap, hv, hr⟩ := OwnG.one hM
    exact ⟨g, cap, a, c, hv, hr, hM.2 _ List.mem_cons_self, hM⟩
  · have := (List.cons.inj e).2
    cases this
set_option maxRecDepth 100000 in
set_option maxHeartbeats 8000000 in
theorem tsameSegs_one (w : World) (b1 b2 : Nat) (v1 v2 : Value) (s : Sg) (h1 : OwnS w b1 v1 [s]) (h2 : OwnS w b2 v2 [s]) :
    Calls Tryz.prog 38 #[v1, v2] w fun e w' => e = .returned (.int .i64 0) ∧ Below w.heap.size w w' := by
  obtain ⟨g1, p1, a1, c1, rfl, r1, -, o1⟩ := h1.one
  obtain ⟨g2, p2, a2, c2, rfl, r2, -, o2⟩ := h2.one
  clear r1 r2 h1 h2
  have G1 := Lib.hid o1
  have G2 := Lib.hid o2
  clear o1 o2
  go_enter Tryz.func38, Tryz.ntmps38
  go_wp2_with fail
  go_loopg [5, 6] 1 (fun g nv iv wr => ∃ (j : Nat), nv = .int .i64 0 ∧ iv = .int .i64 (j : Int) ∧ g + j = 1 ∧ Below w.heap.size w wr)
  case atStart => exact ⟨0, rfl, rfl, rfl, Below.refl _ _⟩
  case round =>
    obtain ⟨j, rfl, rfl, hgj, hb⟩ := hrel
    have HB := Lib.hid hb
    by_cases hj : j < 1
    · obtain rfl : j = 0 := by omega
      have H1 := Lib.hid (G1.out.below hb)
      have H2 := Lib.hid (G2.out.below hb)
      clear hb
      go_upto_region 7 with fail
      have K1 := Lib.hid (show ∀ W, Below wr.heap.size wr W → W.rangeAt g1 0 (sgL (s, a1, c1)) from fun W k => by obtain ⟨g, cap, e, h⟩ := (H1.out.below k).one; cases e; exact h)
      have K2 := Lib.hid (show ∀ W, Below wr.heap.size wr W → W.rangeAt g2 0 (sgL (s, a2, c2)) from fun W k => by obtain ⟨g, cap, e, h⟩ := (H2.out.below k).one; cases e; exact h)
      have B1 := Lib.hid ((H1.out.below (Below.refl _ _).drew).2 _ List.mem_cons_self)
      have B2 := Lib.hid ((H2.out.below (Below.refl _ _).drew).2 _ List.mem_cons_self)
      have hb0 := (Below.refl wr.heap.size wr).drew
      have HD := Lib.hid hb0
      clear hb0
      refine wp_region_held_drew (S := (fun W : World => W.rangeAt g1 0 (sgL (s, a1, c1)) ∧ W.rangeAt g2 0 (sgL (s, a2, c2)))) (by kernel_rfl) (⟨K1.out _ (Below.refl _ _).drew, K2.out _ (Below.refl _ _).drew⟩) (fun hHeld => ?_)
      refine wpT 0 ?_
      refine wpT 1 ?_
      refine wpT 2 ?_
      refine wpL 3 (sgL (s, a1, c1)) (fun _ h => h.1) Tryz.underlying43 sg_size ?_ (ha := by ((try simp only [Act.put, List.setIfInBounds_toArray, List.set_cons_zero, List.set_cons_succ, sgL]); (try rfl)))
      refine wpT 4 ?_
      refine wpT 5 ?_
      refine wpT 6 ?_
      refine wpL 7 (sgL (s, a2, c2)) (fun _ h => h.2) Tryz.underlying43 sg_size ?_ (ha := by ((try simp only [Act.put, List.setIfInBounds_toArray, List.set_cons_zero, List.set_cons_succ, sgL]); (try rfl)))
      refine wpR 8 fun Kq hKq => ?_
      go_simp
      refine (same11_any wr.drew wr.drew.heap.size s a1 a2 c1 c2 ⟨s.s.toArray⟩ B1.out.1 B2.out.1 (Nat.le_refl _)).mono ?_
      rintro e wx ⟨rfl, hb⟩
      have HX := Lib.hid (HD.out.trans hb)
      clear hb
      go_simp
      refine hKq.out _ _ (⟨K1.out _ HX.out, K2.out _ HX.out⟩) (fun hHeld2 => ?_)
      clear hKq Kq hHeld
      refine wpA ?_
      have hHeld := hHeld2
      clear hHeld2
      refine wpT 9 ?_
      refine wpAnyH_done (by kernel_rfl) ?_ _
      clear hHeld
      go_wp2_with fail
      go_roundg (gk - 1)
      case measure => omega
      case rel => exact ⟨1, rfl, by first | rfl | go_num, by omega, HB.out.trans (HX.out.mono HB.out.size)⟩
    · obtain rfl : j = 1 := by omega
      go_wp2_with fail
      go_ret
      exact ⟨rfl, HB.out⟩
end Go.Proofs.YtclkcmidhhfdmaaGreatDoor
