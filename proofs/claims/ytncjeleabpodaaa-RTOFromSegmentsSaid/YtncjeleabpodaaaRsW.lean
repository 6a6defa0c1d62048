/- RTOFromSegments: its walk. -/
import Derived.Test.YtncjeleabpodaaaRsLen
namespace Go.Proofs.Ytncjeleabpodaaa
open Go.RowKit
set_option maxHeartbeats 6400000 in
set_option maxRecDepth 100000 in
theorem walk_RTOFromSegments (w : World) (x : Int) (_hx : (Lit.int .i64 x).wf = true) (a : Option Addr) (len cap : Nat) (zs : Nat → Int × Int) (hrow : IsPairs w a len zs) :
    Calls Try.prog 3 #[.int .i64 x, .slice a len cap] w fun r w' => r = .returned (.bool true) ∧ Below w.heap.size w w' := by
  have hml := hrow.1
  unfold maxLen at hml
  have hz : ∀ i, i < min len 30 → (0 ≤ (zs i).1 ∧ (zs i).1 ≤ 255) ∧ 0 ≤ (zs i).2 ∧ (zs i).2 ≤ 255 := by
    intro i hi
    obtain ⟨b, off, _, _, hc⟩ := hrow.2 (by omega)
    exact (hc i (by omega)).2.2
  have HBD := Lib.hid (rsW_bd zs (min len 30) hz)
  have HFIT := Lib.hid (rsW_fit zs (min len 30) (by omega) hz)
  have HROW := Lib.hid hrow
  clear hz hrow _hx
  go_enter Try.func3, Try.ntmps3
  go_wp2_with fail
  refine (examples_any _).mono ?_
  rintro e w1 ⟨rfl, hB⟩
  go_wp2_with fail
  refine (seqadd_any x 0 _).mono ?_
  rintro e w2 ⟨rfl, rfl⟩
  generalize addV x 0 = p
  go_wp2_with fail
  refine (new_any _).mono ?_
  rintro e w2 ⟨rfl, hw⟩
  have ht := Tim.new_eq hw
  have hNt : w.heap.size ≤ w1.heap.size := hB.size
  replace hB := below_alloc_eq hB hNt hw
  clear hw
  generalize w1.heap.size = Bt at ht hNt ⊢
  go_wp2_with fail
  refine (new_any _).mono ?_
  rintro e w3 ⟨rfl, hw⟩
  have hu := Tim.new_eq hw
  have hNu : w.heap.size ≤ w2.heap.size := hB.size
  have hne : Bt ≠ w2.heap.size := by have := ht.lt; omega
  replace hB := below_alloc_eq hB hNu hw
  replace ht := ht.alloc_eq hw
  clear hw
  generalize w2.heap.size = Bu at hu hNu hne ⊢
  go_wp2_with fail
  go_loopw [9, 10, 11] (fun v o i wr => ∃ k : Nat, k ≤ min len 30 ∧ i = .int .i64 k ∧ v = .int .i64 (rsW zs k).2.1 ∧ o = .int .i64 (rsW zs k).2.2 ∧ Tim Bt (rsW zs k).1 wr ∧ Tim Bu (rsW zs k).1 wr ∧ Below w.heap.size w wr) (fun _ _ i _ => 30 - (intOf i).toNat)
  case atStart => exact ⟨0, Nat.zero_le _, rfl, rfl, rfl, ht, hu, hB⟩
  case round =>
    obtain ⟨k, hk, rfl, rfl, rfl, htk, huk, hBk⟩ := hrel
    clear ht hu hB
    obtain ⟨n1, n2, n3, n4⟩ := HBD.out k hk
    have hf := HFIT.out k hk
    by_cases hlt : k < len
    · by_cases hl3 : k < 30
      · obtain ⟨b, off, rfl, hbs, hcs⟩ := HROW.out.2 (by omega)
        obtain ⟨c0, c1, ⟨z1, z2⟩, z3, z4⟩ := hcs k hlt
        have hf1 := HFIT.out (k + 1) (by omega)
        have HS := Lib.hid (show (rsW zs (k + 1)) = (((rsW zs k).1.sent (rsW zs k).2.1 ((rsW zs k).2.2 + (zs k).1)).acked ((rsW zs k).2.1 + (zs k).2) ((rsW zs k).2.2 + (zs k).1), (rsW zs k).2.1 + (zs k).2, (rsW zs k).2.2 + (zs k).1) from rfl)
        have hf2 : (((rsW zs k).1.sent (rsW zs k).2.1 ((rsW zs k).2.2 + (zs k).1)).acked ((rsW zs k).2.1 + (zs k).2) ((rsW zs k).2.2 + (zs k).1)).Fit := hf1
        clear hcs hf1
        generalize (rsW zs k).2.1 = now at *
        generalize (rsW zs k).2.2 = o at *
        generalize (rsW zs k).1 = m at *
        generalize (zs k).1 = z at *
        generalize (zs k).2 = y at *
        obtain ⟨zn, rfl⟩ := Int.eq_ofNat_of_zero_le z1
        have f1 : (k : Int) < (len : Int) := by omega
        have f2 : (k : Int) < 30 := by omega
        have d0 := (hBk.cell (p := ⟨b, off + k * 2, none⟩) hbs).trans c0
        have d1 := (hBk.cell (p := ⟨b, off + k * 2 + 1, none⟩) hbs).trans c1
        go_wp2_with fail
        obtain ⟨zb, hzb⟩ : ∃ zb : ByteArray, zb = ⟨(List.replicate zn 0).toArray⟩ := ⟨_, rfl⟩
        have hzs : zb.size ≤ 255 := by rw [hzb]; show (List.replicate zn 0).toArray.size ≤ _; simp; omega
        have hmk := make_zeros zn (by omega)
        have hzw : IntKind.i64.wrap (zn : Int) = (zn : Int) := IntWalk.i64_in _ (by omega)
        have HCV := Lib.hid (fun M W (h : ZeroAt M zn W) => show (convert 27 9 (.slice (some ⟨M, 0, none⟩) zn zn)).run Try.prog W = .ok (.string zb) W by rw [hzb]; exact zero_conv h)
        have HZB := Lib.hid hzb
        clear hzb
        have HB := Lib.hid hBk
        have HT := Lib.hid htk
        have HU := Lib.hid huk
        clear hBk htk huk
        refine wp_mono (Q := onNormal (fun a' w' => ∃ X Y, a' = { tmps := #[.int .i64 x, .slice (some ⟨b, off, none⟩) len cap, undef, undef, u4, .bool true, .int .i64 p, .pointer (some ⟨Bt, 0, none⟩), .pointer (some ⟨Bu, 0, none⟩), .int .i64 now, .int .i64 o, .int .i64 (k : Int), .pointer (some ⟨X, 0, none⟩), u13, u14, u15, u16, .bool true, .bool true, .bool false, .int .i64 x, .int .i64 p, .pointer (some ⟨Bt, 0, none⟩), .pointer (some ⟨Bu, 0, none⟩), .int .i64 (k : Int), .slice (some ⟨b, off, none⟩) len cap, .int .i64 (len : Int), .bool true, .bool true, .int .i64 (k : Int), .bool true, .bool true, u32, u33, .int .i64 p, .int .i64 o, .int .i64 (addV p o), .slice (some ⟨b, off, none⟩) len cap, .int .i64 (k : Int), .pointer (some ⟨b, off + k * 2, none⟩), .pointer (some ⟨b, off + k * 2, none⟩), .int .u8 (zn : Int), .int .i64 (zn : Int), .slice (some ⟨Y, 0, none⟩) zn zn, .string zb, .agg #[.int .i64 1, .int .i64 2, .int .i64 (addV p o), .int .i64 0, .bool false, .bool false, .bool false, .bool false, .int .i64 0, .int .i64 0, .bool false, .slice none 0 0, .string zb], u46, u47, u48, u49, u50, u51, u52, u53, u54, u55, u56, u57, u58, u59, u60, u61, u62, u63, u64, u65, u66, u67, u68, u69, u70, u71, u72, u73, u74, u75, u76, u77, u78, u79, u80, u81, u82, u83, u84, u85, u86, u87, u88, u89, u90, u91, u92, u93, u94, u95, u96, u97, u98, u99, u100, u101, u102, u103, u104, u105, u106, u107, u108, undef], defers := [] } ∧ SgC X (.int .i64 1) (.int .i64 2) (.int .i64 (addV p o)) (.int .i64 0) (.bool false) (.bool false) (.bool false) (.bool false) (.int .i64 0) (.int .i64 0) (.bool false) (.slice none 0 0) (.string zb) w' ∧ w.heap.size ≤ X ∧ X ≠ Bt ∧ X ≠ Bu ∧ Tim Bt m w' ∧ Tim Bu m w' ∧ Below w.heap.size w w')) ?_ (onNormal_le ?_)
        · refine wp_region_held_drew (S := (fun W : World => W.cell? ⟨b, off + k * 2, none⟩ = some (.int .u8 (zn : Int)))) (by kernel_rfl) (d0) (fun hHeld => ?_)
          replace HB := Lib.hid HB.out.drew
          replace HT := Lib.hid HT.out.drew
          replace HU := Lib.hid HU.out.drew
          clear d0
          obtain ⟨v0, hv0⟩ : ∃ v0, v0 = wr.drew := ⟨_, rfl⟩
          rw [← hv0] at HB HT HU hHeld ⊢
          clear hv0
          refine wpAnyH_take (i := 0) (v := ?_) (by simp only [List.getElem?_toArray, List.getElem?_cons_zero]; rfl) (by kernel_rfl) (by kernel_rfl) (by kernel_rfl) (by exact fun _ _ _ h => h) (Or.inl ⟨by rfl, ?_⟩) (by assumption) ?_
          rotate_left 1
          · intro w hSw; (try dsimp only at hSw); go_simp; (try with_reducible rfl)
          (try simp only [Act.put, List.setIfInBounds_toArray, List.set_cons_zero, List.set_cons_succ])
          refine wpAnyH_take (i := 1) (v := ?_) (by simp only [List.getElem?_toArray, List.getElem?_cons_succ, List.getElem?_cons_zero]; rfl) (by kernel_rfl) (by kernel_rfl) (by kernel_rfl) (by exact fun _ _ _ h => h) (Or.inl ⟨by rfl, ?_⟩) (by assumption) ?_
          rotate_left 1
          · intro w hSw; (try dsimp only at hSw); go_simp; (try with_reducible rfl)
          (try simp only [Act.put, List.setIfInBounds_toArray, List.set_cons_zero, List.set_cons_succ])
          refine wpAnyH_take (i := 3) (v := ?_) (by simp only [List.getElem?_toArray, List.getElem?_cons_succ, List.getElem?_cons_zero]; rfl) (by kernel_rfl) (by kernel_rfl) (by kernel_rfl) (by exact fun _ _ _ h => h) (Or.inl ⟨by rfl, ?_⟩) (by assumption) ?_
          rotate_left 1
          · intro w hSw; (try dsimp only at hSw); go_simp; (try with_reducible rfl)
          (try simp only [Act.put, List.setIfInBounds_toArray, List.set_cons_zero, List.set_cons_succ])
          refine wpAnyH_take (i := 4) (v := ?_) (by simp only [List.getElem?_toArray, List.getElem?_cons_succ, List.getElem?_cons_zero]; rfl) (by kernel_rfl) (by kernel_rfl) (by kernel_rfl) (by exact fun _ _ _ h => h) (Or.inl ⟨by rfl, ?_⟩) (by assumption) ?_
          rotate_left 1
          · intro w hSw; (try dsimp only at hSw); go_simp; (try with_reducible rfl)
          (try simp only [Act.put, List.setIfInBounds_toArray, List.set_cons_zero, List.set_cons_succ])
          refine wpAnyH_take (i := 5) (v := ?_) (by simp only [List.getElem?_toArray, List.getElem?_cons_succ, List.getElem?_cons_zero]; rfl) (by kernel_rfl) (by kernel_rfl) (by kernel_rfl) (by exact fun _ _ _ h => h) (Or.inl ⟨by rfl, ?_⟩) (by assumption) ?_
          rotate_left 1
          · intro w hSw; (try dsimp only at hSw); go_simp; (try with_reducible rfl)
          (try simp only [Act.put, List.setIfInBounds_toArray, List.set_cons_zero, List.set_cons_succ])
          refine wpAnyH_take (i := 6) (v := ?_) (by simp only [List.getElem?_toArray, List.getElem?_cons_succ, List.getElem?_cons_zero]; rfl) (by kernel_rfl) (by kernel_rfl) (by kernel_rfl) (by exact fun _ _ _ h => h) (Or.inl ⟨by rfl, ?_⟩) (by assumption) ?_
          rotate_left 1
          · intro w hSw; (try dsimp only at hSw); go_simp; (try with_reducible rfl)
          (try simp only [Act.put, List.setIfInBounds_toArray, List.set_cons_zero, List.set_cons_succ])
          refine wpAnyH_take (i := 7) (v := ?_) (by simp only [List.getElem?_toArray, List.getElem?_cons_succ, List.getElem?_cons_zero]; rfl) (by kernel_rfl) (by kernel_rfl) (by kernel_rfl) (by exact fun _ _ _ h => h) (Or.inl ⟨by rfl, ?_⟩) (by assumption) ?_
          rotate_left 1
          · intro w hSw; (try dsimp only at hSw); go_simp; (try with_reducible rfl)
          (try simp only [Act.put, List.setIfInBounds_toArray, List.set_cons_zero, List.set_cons_succ])
          refine wpAnyH_take (i := 8) (v := ?_) (by simp only [List.getElem?_toArray, List.getElem?_cons_succ, List.getElem?_cons_zero]; rfl) (by kernel_rfl) (by kernel_rfl) (by kernel_rfl) (by exact fun _ _ _ h => h) (Or.inl ⟨by rfl, ?_⟩) (by assumption) ?_
          rotate_left 1
          · intro w hSw; (try dsimp only at hSw); go_simp; (try with_reducible rfl)
          (try simp only [Act.put, List.setIfInBounds_toArray, List.set_cons_zero, List.set_cons_succ])
          refine wpAnyH_ready (rs := [2, 9, 12]) (by kernel_rfl) (by simp) ?_
          refine AllReadyH.cons (by simp only [List.getElem?_toArray, List.getElem?_cons_succ, List.getElem?_cons_zero]; rfl) (fun Kq hKq => ?_) (AllReadyH.cons (by simp only [List.getElem?_toArray, List.getElem?_cons_succ, List.getElem?_cons_zero]; rfl) (fun Kq hKq => ?_) (AllReadyH.cons (by simp only [List.getElem?_toArray, List.getElem?_cons_succ, List.getElem?_cons_zero]; rfl) (fun Kq hKq => ?_) AllReadyH.nil))
          · go_simp
            refine (seqadd_any p o _).mono ?_
            rintro e w9 ⟨rfl, rfl⟩
            go_simp
            refine hKq.out _ _ ((HB.out.cell (p := ⟨b, off + k * 2, none⟩) hbs).trans c0) (fun hHeld2 => ?_)
            clear hKq Kq hHeld
            (try simp only [Act.put, List.setIfInBounds_toArray, List.set_cons_zero, List.set_cons_succ])
            have hHeld := hHeld2
            clear hHeld2
            refine wpAnyH_ready (rs := [9, 12]) (by kernel_rfl) (by simp) ?_
            refine AllReadyH.cons (by simp only [List.getElem?_toArray, List.getElem?_cons_succ, List.getElem?_cons_zero]; rfl) (fun Kq hKq => ?_) (AllReadyH.cons (by simp only [List.getElem?_toArray, List.getElem?_cons_succ, List.getElem?_cons_zero]; rfl) (fun Kq hKq => ?_) AllReadyH.nil)
            · go_simp
              have hb := sgBel v0 (.cells (Lib.byteCells (List.replicate zn 0)).toArray 5)
              have HM := Lib.hid (show ZeroAt v0.heap.size zn (v0.alloc (.cells (Lib.byteCells (List.replicate zn 0)).toArray 5)) from heap_alloc_new _ _)
              obtain ⟨M, hM⟩ : ∃ M, M = v0.heap.size := ⟨_, rfl⟩
              rw [← hM] at HM ⊢
              replace HB := Lib.hid (HB.out.trans (hb.mono HB.out.size))
              replace HT := Lib.hid (HT.out.below hb)
              replace HU := Lib.hid (HU.out.below hb)
              clear hb hM
              generalize v0.alloc (.cells (Lib.byteCells (List.replicate zn 0)).toArray 5) = y1 at HB HT HU HM ⊢
              refine hKq.out _ _ ((HB.out.cell (p := ⟨b, off + k * 2, none⟩) hbs).trans c0) (fun hHeld2 => ?_)
              clear hKq Kq hHeld
              (try simp only [Act.put, List.setIfInBounds_toArray, List.set_cons_zero, List.set_cons_succ])
              have hHeld := hHeld2
              clear hHeld2
              refine wpAnyH_switch (S' := fun W : World => W.cell? ⟨b, off + k * 2, none⟩ = some (.int .u8 (zn : Int)) ∧ ZeroAt M zn W) (fun _ h => h.1) _ _ _ _ ?_
              replace hHeld : y1.cell? ⟨b, off + k * 2, none⟩ = some (.int .u8 (zn : Int)) ∧ ZeroAt M zn y1 := ⟨hHeld, HM.out⟩
              refine wpAnyH_take (i := 10) (v := ?_) (by simp only [List.getElem?_toArray, List.getElem?_cons_succ, List.getElem?_cons_zero]; rfl) (by kernel_rfl) (by kernel_rfl) (by kernel_rfl) (by exact fun _ _ _ h => h) (Or.inl ⟨by rfl, ?_⟩) (by assumption) ?_
              rotate_left 1
              · intro w hSw; (have hcv := HCV.out M _ hSw.2; obtain ⟨hSw1, -⟩ := hSw); go_simp; (try with_reducible rfl)
              (try simp only [Act.put, List.setIfInBounds_toArray, List.set_cons_zero, List.set_cons_succ])
              refine wpAnyH_take (i := 11) (v := ?_) (by simp only [List.getElem?_toArray, List.getElem?_cons_succ, List.getElem?_cons_zero]; rfl) (by kernel_rfl) (by kernel_rfl) (by kernel_rfl) (by exact fun _ _ _ h => h) (Or.inl ⟨by rfl, ?_⟩) (by assumption) ?_
              rotate_left 1
              · intro w hSw; (try dsimp only at hSw); go_simp; (try with_reducible rfl)
              (try simp only [Act.put, List.setIfInBounds_toArray, List.set_cons_zero, List.set_cons_succ])
              refine wpAnyH_ready (rs := [12]) (by kernel_rfl) (by simp) ?_
              refine AllReadyH.cons (by simp only [List.getElem?_toArray, List.getElem?_cons_succ, List.getElem?_cons_zero]; rfl) (fun Kq hKq => ?_) AllReadyH.nil
              go_simp
              have hb := sgBel y1 (.cells #[.int .i64 0, .int .i64 0, .int .i64 0, .int .i64 0, .bool false, .bool false, .bool false, .bool false, .int .i64 0, .int .i64 0, .bool false, .slice none 0 0, .string ⟨#[]⟩] 31)
              have HX := Lib.hid (show SgC y1.heap.size (.int .i64 0) (.int .i64 0) (.int .i64 0) (.int .i64 0) (.bool false) (.bool false) (.bool false) (.bool false) (.int .i64 0) (.int .i64 0) (.bool false) (.slice none 0 0) (.string ⟨#[]⟩) (y1.alloc (.cells #[.int .i64 0, .int .i64 0, .int .i64 0, .int .i64 0, .bool false, .bool false, .bool false, .bool false, .int .i64 0, .int .i64 0, .bool false, .slice none 0 0, .string ⟨#[]⟩] 31)) from SgC.new _ _ _ _ _ _ _ _ _ _ _ _ _ _ _)
              obtain ⟨X, hX⟩ : ∃ X, X = y1.heap.size := ⟨_, rfl⟩
              have hXw : w.heap.size ≤ X := by rw [hX]; exact HB.out.size
              have hXt : X ≠ Bt := by have := HT.out.lt; omega
              have hXu : X ≠ Bu := by have := HU.out.lt; omega
              rw [← hX] at HX ⊢
              replace HM := Lib.hid (HM.out.below hb (Array.getElem?_eq_some_iff.1 HM.out).1)
              replace HB := Lib.hid (HB.out.trans (hb.mono HB.out.size))
              replace HT := Lib.hid (HT.out.below hb)
              replace HU := Lib.hid (HU.out.below hb)
              clear hb hX
              generalize y1.alloc (.cells #[.int .i64 0, .int .i64 0, .int .i64 0, .int .i64 0, .bool false, .bool false, .bool false, .bool false, .int .i64 0, .int .i64 0, .bool false, .slice none 0 0, .string ⟨#[]⟩] 31) = y2 at HB HT HU HM HX ⊢
              refine hKq.out _ _ (⟨(HB.out.cell (p := ⟨b, off + k * 2, none⟩) hbs).trans c0, HM.out⟩) (fun hHeld2 => ?_)
              clear hKq Kq hHeld
              (try simp only [Act.put, List.setIfInBounds_toArray, List.set_cons_zero, List.set_cons_succ])
              have hHeld := hHeld2
              clear hHeld2
              have hMX : M ≠ X := by
                intro e
                have h1 := HX.out.c0.1
                rw [← e, cell_of_row _ _ _ _ _ _ HM.out] at h1
                simp only [List.getElem?_toArray] at h1
                have h2 := List.mem_of_getElem? h1
                obtain ⟨u, -, hu⟩ := List.mem_map.1 h2
                cases hu
              obtain ⟨g0, f0⟩ := HX.out.c0
              obtain ⟨g1, f1⟩ := HX.out.c1
              obtain ⟨g2, f2⟩ := HX.out.c2
              obtain ⟨g3, f3⟩ := HX.out.c3
              obtain ⟨g4, f4⟩ := HX.out.c4
              obtain ⟨g5, f5⟩ := HX.out.c5
              obtain ⟨g6, f6⟩ := HX.out.c6
              obtain ⟨g7, f7⟩ := HX.out.c7
              obtain ⟨g8, f8⟩ := HX.out.c8
              obtain ⟨g9, f9⟩ := HX.out.c9
              obtain ⟨g10, f10⟩ := HX.out.c10
              obtain ⟨g11, f11⟩ := HX.out.c11
              obtain ⟨g12, f12⟩ := HX.out.c12
              refine wpAnyH_ready (rs := [13]) (by kernel_rfl) (by simp) ?_
              refine AllReadyH.cons (by simp only [List.getElem?_toArray, List.getElem?_cons_succ, List.getElem?_cons_zero]; rfl) (fun Kq hKq => ?_) AllReadyH.nil
              go_simp
              clear g0 f0 g1 f1 g2 f2 g3 f3 g4 f4 g5 f5 g6 f6 g7 f7 g8 f8 g9 f9 g10 f10 g11 f11 g12 f12
              have hD := (((((((((((((HX.out.set0 (.int .i64 1)).set1 (.int .i64 2)).set2 (.int .i64 (addV p o))).set3 (.int .i64 0)).set4 (.bool false)).set5 (.bool false)).set6 (.bool false)).set7 (.bool false)).set8 (.int .i64 0)).set9 (.int .i64 0)).set10 (.bool false)).set11 (.slice none 0 0)).set12 (.string zb))
              have hch := (((((((((((((Chg.refl X y2).setCell 0 (.int .i64 1)).setCell 1 (.int .i64 2)).setCell 2 (.int .i64 (addV p o))).setCell 3 (.int .i64 0)).setCell 4 (.bool false)).setCell 5 (.bool false)).setCell 6 (.bool false)).setCell 7 (.bool false)).setCell 8 (.int .i64 0)).setCell 9 (.int .i64 0)).setCell 10 (.bool false)).setCell 11 (.slice none 0 0)).setCell 12 (.string zb)
              replace HB := Lib.hid (HB.out.trans (hch.below hXw HX.out.c0.lt))
              replace HT := Lib.hid (HT.out.other hch hXt.symm)
              replace HU := Lib.hid (HU.out.other hch hXu.symm)
              skip
              generalize (((((((((((((y2.setCell ⟨X, 0, none⟩ (.int .i64 1)).setCell ⟨X, 1, none⟩ (.int .i64 2)).setCell ⟨X, 2, none⟩ (.int .i64 (addV p o))).setCell ⟨X, 3, none⟩ (.int .i64 0)).setCell ⟨X, 4, none⟩ (.bool false)).setCell ⟨X, 5, none⟩ (.bool false)).setCell ⟨X, 6, none⟩ (.bool false)).setCell ⟨X, 7, none⟩ (.bool false)).setCell ⟨X, 8, none⟩ (.int .i64 0)).setCell ⟨X, 9, none⟩ (.int .i64 0)).setCell ⟨X, 10, none⟩ (.bool false)).setCell ⟨X, 11, none⟩ (.slice none 0 0)).setCell ⟨X, 12, none⟩ (.string zb)) = yz at HB HT HU hD hch ⊢
              refine hKq.out _ _ (⟨(HB.out.cell (p := ⟨b, off + k * 2, none⟩) hbs).trans c0, (hch.block M (Array.getElem?_eq_some_iff.1 HM.out).1 hMX).trans HM.out⟩) (fun hHeld2 => ?_)
              clear hKq Kq hHeld
              (try simp only [Act.put, List.setIfInBounds_toArray, List.set_cons_zero, List.set_cons_succ])
              clear hHeld2
              refine wpAnyH_done (by kernel_rfl) ?_ _
              exact ⟨X, M, rfl, hD, hXw, hXt, hXu, HT.out, HU.out, HB.out⟩
            · go_simp
              have hb := sgBel v0 (.cells #[.int .i64 0, .int .i64 0, .int .i64 0, .int .i64 0, .bool false, .bool false, .bool false, .bool false, .int .i64 0, .int .i64 0, .bool false, .slice none 0 0, .string ⟨#[]⟩] 31)
              have HX := Lib.hid (show SgC v0.heap.size (.int .i64 0) (.int .i64 0) (.int .i64 0) (.int .i64 0) (.bool false) (.bool false) (.bool false) (.bool false) (.int .i64 0) (.int .i64 0) (.bool false) (.slice none 0 0) (.string ⟨#[]⟩) (v0.alloc (.cells #[.int .i64 0, .int .i64 0, .int .i64 0, .int .i64 0, .bool false, .bool false, .bool false, .bool false, .int .i64 0, .int .i64 0, .bool false, .slice none 0 0, .string ⟨#[]⟩] 31)) from SgC.new _ _ _ _ _ _ _ _ _ _ _ _ _ _ _)
              obtain ⟨X, hX⟩ : ∃ X, X = v0.heap.size := ⟨_, rfl⟩
              have hXw : w.heap.size ≤ X := by rw [hX]; exact HB.out.size
              have hXt : X ≠ Bt := by have := HT.out.lt; omega
              have hXu : X ≠ Bu := by have := HU.out.lt; omega
              rw [← hX] at HX ⊢
              replace HB := Lib.hid (HB.out.trans (hb.mono HB.out.size))
              replace HT := Lib.hid (HT.out.below hb)
              replace HU := Lib.hid (HU.out.below hb)
              clear hb hX
              generalize v0.alloc (.cells #[.int .i64 0, .int .i64 0, .int .i64 0, .int .i64 0, .bool false, .bool false, .bool false, .bool false, .int .i64 0, .int .i64 0, .bool false, .slice none 0 0, .string ⟨#[]⟩] 31) = y3 at HB HT HU HX ⊢
              refine hKq.out _ _ ((HB.out.cell (p := ⟨b, off + k * 2, none⟩) hbs).trans c0) (fun hHeld2 => ?_)
              clear hKq Kq hHeld
              (try simp only [Act.put, List.setIfInBounds_toArray, List.set_cons_zero, List.set_cons_succ])
              have hHeld := hHeld2
              clear hHeld2
              refine wpAnyH_ready (rs := [9]) (by kernel_rfl) (by simp) ?_
              refine AllReadyH.cons (by simp only [List.getElem?_toArray, List.getElem?_cons_succ, List.getElem?_cons_zero]; rfl) (fun Kq hKq => ?_) AllReadyH.nil
              go_simp
              have hb := sgBel y3 (.cells (Lib.byteCells (List.replicate zn 0)).toArray 5)
              have HM := Lib.hid (show ZeroAt y3.heap.size zn (y3.alloc (.cells (Lib.byteCells (List.replicate zn 0)).toArray 5)) from heap_alloc_new _ _)
              obtain ⟨M, hM⟩ : ∃ M, M = y3.heap.size := ⟨_, rfl⟩
              rw [← hM] at HM ⊢
              replace HX := Lib.hid (HX.out.below hb HX.out.c0.lt)
              replace HB := Lib.hid (HB.out.trans (hb.mono HB.out.size))
              replace HT := Lib.hid (HT.out.below hb)
              replace HU := Lib.hid (HU.out.below hb)
              clear hb hM
              generalize y3.alloc (.cells (Lib.byteCells (List.replicate zn 0)).toArray 5) = y4 at HB HT HU HM HX ⊢
              refine hKq.out _ _ ((HB.out.cell (p := ⟨b, off + k * 2, none⟩) hbs).trans c0) (fun hHeld2 => ?_)
              clear hKq Kq hHeld
              (try simp only [Act.put, List.setIfInBounds_toArray, List.set_cons_zero, List.set_cons_succ])
              have hHeld := hHeld2
              clear hHeld2
              refine wpAnyH_switch (S' := fun W : World => W.cell? ⟨b, off + k * 2, none⟩ = some (.int .u8 (zn : Int)) ∧ ZeroAt M zn W) (fun _ h => h.1) _ _ _ _ ?_
              replace hHeld : y4.cell? ⟨b, off + k * 2, none⟩ = some (.int .u8 (zn : Int)) ∧ ZeroAt M zn y4 := ⟨hHeld, HM.out⟩
              refine wpAnyH_take (i := 10) (v := ?_) (by simp only [List.getElem?_toArray, List.getElem?_cons_succ, List.getElem?_cons_zero]; rfl) (by kernel_rfl) (by kernel_rfl) (by kernel_rfl) (by exact fun _ _ _ h => h) (Or.inl ⟨by rfl, ?_⟩) (by assumption) ?_
              rotate_left 1
              · intro w hSw; (have hcv := HCV.out M _ hSw.2; obtain ⟨hSw1, -⟩ := hSw); go_simp; (try with_reducible rfl)
              (try simp only [Act.put, List.setIfInBounds_toArray, List.set_cons_zero, List.set_cons_succ])
              refine wpAnyH_take (i := 11) (v := ?_) (by simp only [List.getElem?_toArray, List.getElem?_cons_succ, List.getElem?_cons_zero]; rfl) (by kernel_rfl) (by kernel_rfl) (by kernel_rfl) (by exact fun _ _ _ h => h) (Or.inl ⟨by rfl, ?_⟩) (by assumption) ?_
              rotate_left 1
              · intro w hSw; (try dsimp only at hSw); go_simp; (try with_reducible rfl)
              (try simp only [Act.put, List.setIfInBounds_toArray, List.set_cons_zero, List.set_cons_succ])
              have hMX : M ≠ X := by
                intro e
                have h1 := HX.out.c0.1
                rw [← e, cell_of_row _ _ _ _ _ _ HM.out] at h1
                simp only [List.getElem?_toArray] at h1
                have h2 := List.mem_of_getElem? h1
                obtain ⟨u, -, hu⟩ := List.mem_map.1 h2
                cases hu
              obtain ⟨g0, f0⟩ := HX.out.c0
              obtain ⟨g1, f1⟩ := HX.out.c1
              obtain ⟨g2, f2⟩ := HX.out.c2
              obtain ⟨g3, f3⟩ := HX.out.c3
              obtain ⟨g4, f4⟩ := HX.out.c4
              obtain ⟨g5, f5⟩ := HX.out.c5
              obtain ⟨g6, f6⟩ := HX.out.c6
              obtain ⟨g7, f7⟩ := HX.out.c7
              obtain ⟨g8, f8⟩ := HX.out.c8
              obtain ⟨g9, f9⟩ := HX.out.c9
              obtain ⟨g10, f10⟩ := HX.out.c10
              obtain ⟨g11, f11⟩ := HX.out.c11
              obtain ⟨g12, f12⟩ := HX.out.c12
              refine wpAnyH_ready (rs := [13]) (by kernel_rfl) (by simp) ?_
              refine AllReadyH.cons (by simp only [List.getElem?_toArray, List.getElem?_cons_succ, List.getElem?_cons_zero]; rfl) (fun Kq hKq => ?_) AllReadyH.nil
              go_simp
              clear g0 f0 g1 f1 g2 f2 g3 f3 g4 f4 g5 f5 g6 f6 g7 f7 g8 f8 g9 f9 g10 f10 g11 f11 g12 f12
              have hD := (((((((((((((HX.out.set0 (.int .i64 1)).set1 (.int .i64 2)).set2 (.int .i64 (addV p o))).set3 (.int .i64 0)).set4 (.bool false)).set5 (.bool false)).set6 (.bool false)).set7 (.bool false)).set8 (.int .i64 0)).set9 (.int .i64 0)).set10 (.bool false)).set11 (.slice none 0 0)).set12 (.string zb))
              have hch := (((((((((((((Chg.refl X y4).setCell 0 (.int .i64 1)).setCell 1 (.int .i64 2)).setCell 2 (.int .i64 (addV p o))).setCell 3 (.int .i64 0)).setCell 4 (.bool false)).setCell 5 (.bool false)).setCell 6 (.bool false)).setCell 7 (.bool false)).setCell 8 (.int .i64 0)).setCell 9 (.int .i64 0)).setCell 10 (.bool false)).setCell 11 (.slice none 0 0)).setCell 12 (.string zb)
              replace HB := Lib.hid (HB.out.trans (hch.below hXw HX.out.c0.lt))
              replace HT := Lib.hid (HT.out.other hch hXt.symm)
              replace HU := Lib.hid (HU.out.other hch hXu.symm)
              skip
              generalize (((((((((((((y4.setCell ⟨X, 0, none⟩ (.int .i64 1)).setCell ⟨X, 1, none⟩ (.int .i64 2)).setCell ⟨X, 2, none⟩ (.int .i64 (addV p o))).setCell ⟨X, 3, none⟩ (.int .i64 0)).setCell ⟨X, 4, none⟩ (.bool false)).setCell ⟨X, 5, none⟩ (.bool false)).setCell ⟨X, 6, none⟩ (.bool false)).setCell ⟨X, 7, none⟩ (.bool false)).setCell ⟨X, 8, none⟩ (.int .i64 0)).setCell ⟨X, 9, none⟩ (.int .i64 0)).setCell ⟨X, 10, none⟩ (.bool false)).setCell ⟨X, 11, none⟩ (.slice none 0 0)).setCell ⟨X, 12, none⟩ (.string zb)) = yz at HB HT HU hD hch ⊢
              refine hKq.out _ _ (⟨(HB.out.cell (p := ⟨b, off + k * 2, none⟩) hbs).trans c0, (hch.block M (Array.getElem?_eq_some_iff.1 HM.out).1 hMX).trans HM.out⟩) (fun hHeld2 => ?_)
              clear hKq Kq hHeld
              (try simp only [Act.put, List.setIfInBounds_toArray, List.set_cons_zero, List.set_cons_succ])
              clear hHeld2
              refine wpAnyH_done (by kernel_rfl) ?_ _
              exact ⟨X, M, rfl, hD, hXw, hXt, hXu, HT.out, HU.out, HB.out⟩
          · go_simp
            have hb := sgBel v0 (.cells (Lib.byteCells (List.replicate zn 0)).toArray 5)
            have HM := Lib.hid (show ZeroAt v0.heap.size zn (v0.alloc (.cells (Lib.byteCells (List.replicate zn 0)).toArray 5)) from heap_alloc_new _ _)
            obtain ⟨M, hM⟩ : ∃ M, M = v0.heap.size := ⟨_, rfl⟩
            rw [← hM] at HM ⊢
            replace HB := Lib.hid (HB.out.trans (hb.mono HB.out.size))
            replace HT := Lib.hid (HT.out.below hb)
            replace HU := Lib.hid (HU.out.below hb)
            clear hb hM
            generalize v0.alloc (.cells (Lib.byteCells (List.replicate zn 0)).toArray 5) = y5 at HB HT HU HM ⊢
            refine hKq.out _ _ ((HB.out.cell (p := ⟨b, off + k * 2, none⟩) hbs).trans c0) (fun hHeld2 => ?_)
            clear hKq Kq hHeld
            (try simp only [Act.put, List.setIfInBounds_toArray, List.set_cons_zero, List.set_cons_succ])
            have hHeld := hHeld2
            clear hHeld2
            refine wpAnyH_switch (S' := fun W : World => W.cell? ⟨b, off + k * 2, none⟩ = some (.int .u8 (zn : Int)) ∧ ZeroAt M zn W) (fun _ h => h.1) _ _ _ _ ?_
            replace hHeld : y5.cell? ⟨b, off + k * 2, none⟩ = some (.int .u8 (zn : Int)) ∧ ZeroAt M zn y5 := ⟨hHeld, HM.out⟩
            refine wpAnyH_take (i := 10) (v := ?_) (by simp only [List.getElem?_toArray, List.getElem?_cons_succ, List.getElem?_cons_zero]; rfl) (by kernel_rfl) (by kernel_rfl) (by kernel_rfl) (by exact fun _ _ _ h => h) (Or.inl ⟨by rfl, ?_⟩) (by assumption) ?_
            rotate_left 1
            · intro w hSw; (have hcv := HCV.out M _ hSw.2; obtain ⟨hSw1, -⟩ := hSw); go_simp; (try with_reducible rfl)
            (try simp only [Act.put, List.setIfInBounds_toArray, List.set_cons_zero, List.set_cons_succ])
            refine wpAnyH_ready (rs := [2, 12]) (by kernel_rfl) (by simp) ?_
            refine AllReadyH.cons (by simp only [List.getElem?_toArray, List.getElem?_cons_succ, List.getElem?_cons_zero]; rfl) (fun Kq hKq => ?_) (AllReadyH.cons (by simp only [List.getElem?_toArray, List.getElem?_cons_succ, List.getElem?_cons_zero]; rfl) (fun Kq hKq => ?_) AllReadyH.nil)
            · go_simp
              refine (seqadd_any p o _).mono ?_
              rintro e w9 ⟨rfl, rfl⟩
              go_simp
              refine hKq.out _ _ (⟨(HB.out.cell (p := ⟨b, off + k * 2, none⟩) hbs).trans c0, HM.out⟩) (fun hHeld2 => ?_)
              clear hKq Kq hHeld
              (try simp only [Act.put, List.setIfInBounds_toArray, List.set_cons_zero, List.set_cons_succ])
              have hHeld := hHeld2
              clear hHeld2
              refine wpAnyH_take (i := 11) (v := ?_) (by simp only [List.getElem?_toArray, List.getElem?_cons_succ, List.getElem?_cons_zero]; rfl) (by kernel_rfl) (by kernel_rfl) (by kernel_rfl) (by exact fun _ _ _ h => h) (Or.inl ⟨by rfl, ?_⟩) (by assumption) ?_
              rotate_left 1
              · intro w hSw; (try dsimp only at hSw); go_simp; (try with_reducible rfl)
              (try simp only [Act.put, List.setIfInBounds_toArray, List.set_cons_zero, List.set_cons_succ])
              refine wpAnyH_ready (rs := [12]) (by kernel_rfl) (by simp) ?_
              refine AllReadyH.cons (by simp only [List.getElem?_toArray, List.getElem?_cons_succ, List.getElem?_cons_zero]; rfl) (fun Kq hKq => ?_) AllReadyH.nil
              go_simp
              have hb := sgBel y5 (.cells #[.int .i64 0, .int .i64 0, .int .i64 0, .int .i64 0, .bool false, .bool false, .bool false, .bool false, .int .i64 0, .int .i64 0, .bool false, .slice none 0 0, .string ⟨#[]⟩] 31)
              have HX := Lib.hid (show SgC y5.heap.size (.int .i64 0) (.int .i64 0) (.int .i64 0) (.int .i64 0) (.bool false) (.bool false) (.bool false) (.bool false) (.int .i64 0) (.int .i64 0) (.bool false) (.slice none 0 0) (.string ⟨#[]⟩) (y5.alloc (.cells #[.int .i64 0, .int .i64 0, .int .i64 0, .int .i64 0, .bool false, .bool false, .bool false, .bool false, .int .i64 0, .int .i64 0, .bool false, .slice none 0 0, .string ⟨#[]⟩] 31)) from SgC.new _ _ _ _ _ _ _ _ _ _ _ _ _ _ _)
              obtain ⟨X, hX⟩ : ∃ X, X = y5.heap.size := ⟨_, rfl⟩
              have hXw : w.heap.size ≤ X := by rw [hX]; exact HB.out.size
              have hXt : X ≠ Bt := by have := HT.out.lt; omega
              have hXu : X ≠ Bu := by have := HU.out.lt; omega
              rw [← hX] at HX ⊢
              replace HM := Lib.hid (HM.out.below hb (Array.getElem?_eq_some_iff.1 HM.out).1)
              replace HB := Lib.hid (HB.out.trans (hb.mono HB.out.size))
              replace HT := Lib.hid (HT.out.below hb)
              replace HU := Lib.hid (HU.out.below hb)
              clear hb hX
              generalize y5.alloc (.cells #[.int .i64 0, .int .i64 0, .int .i64 0, .int .i64 0, .bool false, .bool false, .bool false, .bool false, .int .i64 0, .int .i64 0, .bool false, .slice none 0 0, .string ⟨#[]⟩] 31) = y6 at HB HT HU HM HX ⊢
              refine hKq.out _ _ (⟨(HB.out.cell (p := ⟨b, off + k * 2, none⟩) hbs).trans c0, HM.out⟩) (fun hHeld2 => ?_)
              clear hKq Kq hHeld
              (try simp only [Act.put, List.setIfInBounds_toArray, List.set_cons_zero, List.set_cons_succ])
              have hHeld := hHeld2
              clear hHeld2
              have hMX : M ≠ X := by
                intro e
                have h1 := HX.out.c0.1
                rw [← e, cell_of_row _ _ _ _ _ _ HM.out] at h1
                simp only [List.getElem?_toArray] at h1
                have h2 := List.mem_of_getElem? h1
                obtain ⟨u, -, hu⟩ := List.mem_map.1 h2
                cases hu
              obtain ⟨g0, f0⟩ := HX.out.c0
              obtain ⟨g1, f1⟩ := HX.out.c1
              obtain ⟨g2, f2⟩ := HX.out.c2
              obtain ⟨g3, f3⟩ := HX.out.c3
              obtain ⟨g4, f4⟩ := HX.out.c4
              obtain ⟨g5, f5⟩ := HX.out.c5
              obtain ⟨g6, f6⟩ := HX.out.c6
              obtain ⟨g7, f7⟩ := HX.out.c7
              obtain ⟨g8, f8⟩ := HX.out.c8
              obtain ⟨g9, f9⟩ := HX.out.c9
              obtain ⟨g10, f10⟩ := HX.out.c10
              obtain ⟨g11, f11⟩ := HX.out.c11
              obtain ⟨g12, f12⟩ := HX.out.c12
              refine wpAnyH_ready (rs := [13]) (by kernel_rfl) (by simp) ?_
              refine AllReadyH.cons (by simp only [List.getElem?_toArray, List.getElem?_cons_succ, List.getElem?_cons_zero]; rfl) (fun Kq hKq => ?_) AllReadyH.nil
              go_simp
              clear g0 f0 g1 f1 g2 f2 g3 f3 g4 f4 g5 f5 g6 f6 g7 f7 g8 f8 g9 f9 g10 f10 g11 f11 g12 f12
              have hD := (((((((((((((HX.out.set0 (.int .i64 1)).set1 (.int .i64 2)).set2 (.int .i64 (addV p o))).set3 (.int .i64 0)).set4 (.bool false)).set5 (.bool false)).set6 (.bool false)).set7 (.bool false)).set8 (.int .i64 0)).set9 (.int .i64 0)).set10 (.bool false)).set11 (.slice none 0 0)).set12 (.string zb))
              have hch := (((((((((((((Chg.refl X y6).setCell 0 (.int .i64 1)).setCell 1 (.int .i64 2)).setCell 2 (.int .i64 (addV p o))).setCell 3 (.int .i64 0)).setCell 4 (.bool false)).setCell 5 (.bool false)).setCell 6 (.bool false)).setCell 7 (.bool false)).setCell 8 (.int .i64 0)).setCell 9 (.int .i64 0)).setCell 10 (.bool false)).setCell 11 (.slice none 0 0)).setCell 12 (.string zb)
              replace HB := Lib.hid (HB.out.trans (hch.below hXw HX.out.c0.lt))
              replace HT := Lib.hid (HT.out.other hch hXt.symm)
              replace HU := Lib.hid (HU.out.other hch hXu.symm)
              skip
              generalize (((((((((((((y6.setCell ⟨X, 0, none⟩ (.int .i64 1)).setCell ⟨X, 1, none⟩ (.int .i64 2)).setCell ⟨X, 2, none⟩ (.int .i64 (addV p o))).setCell ⟨X, 3, none⟩ (.int .i64 0)).setCell ⟨X, 4, none⟩ (.bool false)).setCell ⟨X, 5, none⟩ (.bool false)).setCell ⟨X, 6, none⟩ (.bool false)).setCell ⟨X, 7, none⟩ (.bool false)).setCell ⟨X, 8, none⟩ (.int .i64 0)).setCell ⟨X, 9, none⟩ (.int .i64 0)).setCell ⟨X, 10, none⟩ (.bool false)).setCell ⟨X, 11, none⟩ (.slice none 0 0)).setCell ⟨X, 12, none⟩ (.string zb)) = yz at HB HT HU hD hch ⊢
              refine hKq.out _ _ (⟨(HB.out.cell (p := ⟨b, off + k * 2, none⟩) hbs).trans c0, (hch.block M (Array.getElem?_eq_some_iff.1 HM.out).1 hMX).trans HM.out⟩) (fun hHeld2 => ?_)
              clear hKq Kq hHeld
              (try simp only [Act.put, List.setIfInBounds_toArray, List.set_cons_zero, List.set_cons_succ])
              clear hHeld2
              refine wpAnyH_done (by kernel_rfl) ?_ _
              exact ⟨X, M, rfl, hD, hXw, hXt, hXu, HT.out, HU.out, HB.out⟩
            · go_simp
              have hb := sgBel y5 (.cells #[.int .i64 0, .int .i64 0, .int .i64 0, .int .i64 0, .bool false, .bool false, .bool false, .bool false, .int .i64 0, .int .i64 0, .bool false, .slice none 0 0, .string ⟨#[]⟩] 31)
              have HX := Lib.hid (show SgC y5.heap.size (.int .i64 0) (.int .i64 0) (.int .i64 0) (.int .i64 0) (.bool false) (.bool false) (.bool false) (.bool false) (.int .i64 0) (.int .i64 0) (.bool false) (.slice none 0 0) (.string ⟨#[]⟩) (y5.alloc (.cells #[.int .i64 0, .int .i64 0, .int .i64 0, .int .i64 0, .bool false, .bool false, .bool false, .bool false, .int .i64 0, .int .i64 0, .bool false, .slice none 0 0, .string ⟨#[]⟩] 31)) from SgC.new _ _ _ _ _ _ _ _ _ _ _ _ _ _ _)
              obtain ⟨X, hX⟩ : ∃ X, X = y5.heap.size := ⟨_, rfl⟩
              have hXw : w.heap.size ≤ X := by rw [hX]; exact HB.out.size
              have hXt : X ≠ Bt := by have := HT.out.lt; omega
              have hXu : X ≠ Bu := by have := HU.out.lt; omega
              rw [← hX] at HX ⊢
              replace HM := Lib.hid (HM.out.below hb (Array.getElem?_eq_some_iff.1 HM.out).1)
              replace HB := Lib.hid (HB.out.trans (hb.mono HB.out.size))
              replace HT := Lib.hid (HT.out.below hb)
              replace HU := Lib.hid (HU.out.below hb)
              clear hb hX
              generalize y5.alloc (.cells #[.int .i64 0, .int .i64 0, .int .i64 0, .int .i64 0, .bool false, .bool false, .bool false, .bool false, .int .i64 0, .int .i64 0, .bool false, .slice none 0 0, .string ⟨#[]⟩] 31) = y7 at HB HT HU HM HX ⊢
              refine hKq.out _ _ (⟨(HB.out.cell (p := ⟨b, off + k * 2, none⟩) hbs).trans c0, HM.out⟩) (fun hHeld2 => ?_)
              clear hKq Kq hHeld
              (try simp only [Act.put, List.setIfInBounds_toArray, List.set_cons_zero, List.set_cons_succ])
              have hHeld := hHeld2
              clear hHeld2
              refine wpAnyH_ready (rs := [2]) (by kernel_rfl) (by simp) ?_
              refine AllReadyH.cons (by simp only [List.getElem?_toArray, List.getElem?_cons_succ, List.getElem?_cons_zero]; rfl) (fun Kq hKq => ?_) AllReadyH.nil
              go_simp
              refine (seqadd_any p o _).mono ?_
              rintro e w9 ⟨rfl, rfl⟩
              go_simp
              refine hKq.out _ _ (⟨(HB.out.cell (p := ⟨b, off + k * 2, none⟩) hbs).trans c0, HM.out⟩) (fun hHeld2 => ?_)
              clear hKq Kq hHeld
              (try simp only [Act.put, List.setIfInBounds_toArray, List.set_cons_zero, List.set_cons_succ])
              have hHeld := hHeld2
              clear hHeld2
              refine wpAnyH_take (i := 11) (v := ?_) (by simp only [List.getElem?_toArray, List.getElem?_cons_succ, List.getElem?_cons_zero]; rfl) (by kernel_rfl) (by kernel_rfl) (by kernel_rfl) (by exact fun _ _ _ h => h) (Or.inl ⟨by rfl, ?_⟩) (by assumption) ?_
              rotate_left 1
              · intro w hSw; (try dsimp only at hSw); go_simp; (try with_reducible rfl)
              (try simp only [Act.put, List.setIfInBounds_toArray, List.set_cons_zero, List.set_cons_succ])
              have hMX : M ≠ X := by
                intro e
                have h1 := HX.out.c0.1
                rw [← e, cell_of_row _ _ _ _ _ _ HM.out] at h1
                simp only [List.getElem?_toArray] at h1
                have h2 := List.mem_of_getElem? h1
                obtain ⟨u, -, hu⟩ := List.mem_map.1 h2
                cases hu
              obtain ⟨g0, f0⟩ := HX.out.c0
              obtain ⟨g1, f1⟩ := HX.out.c1
              obtain ⟨g2, f2⟩ := HX.out.c2
              obtain ⟨g3, f3⟩ := HX.out.c3
              obtain ⟨g4, f4⟩ := HX.out.c4
              obtain ⟨g5, f5⟩ := HX.out.c5
              obtain ⟨g6, f6⟩ := HX.out.c6
              obtain ⟨g7, f7⟩ := HX.out.c7
              obtain ⟨g8, f8⟩ := HX.out.c8
              obtain ⟨g9, f9⟩ := HX.out.c9
              obtain ⟨g10, f10⟩ := HX.out.c10
              obtain ⟨g11, f11⟩ := HX.out.c11
              obtain ⟨g12, f12⟩ := HX.out.c12
              refine wpAnyH_ready (rs := [13]) (by kernel_rfl) (by simp) ?_
              refine AllReadyH.cons (by simp only [List.getElem?_toArray, List.getElem?_cons_succ, List.getElem?_cons_zero]; rfl) (fun Kq hKq => ?_) AllReadyH.nil
              go_simp
              clear g0 f0 g1 f1 g2 f2 g3 f3 g4 f4 g5 f5 g6 f6 g7 f7 g8 f8 g9 f9 g10 f10 g11 f11 g12 f12
              have hD := (((((((((((((HX.out.set0 (.int .i64 1)).set1 (.int .i64 2)).set2 (.int .i64 (addV p o))).set3 (.int .i64 0)).set4 (.bool false)).set5 (.bool false)).set6 (.bool false)).set7 (.bool false)).set8 (.int .i64 0)).set9 (.int .i64 0)).set10 (.bool false)).set11 (.slice none 0 0)).set12 (.string zb))
              have hch := (((((((((((((Chg.refl X y7).setCell 0 (.int .i64 1)).setCell 1 (.int .i64 2)).setCell 2 (.int .i64 (addV p o))).setCell 3 (.int .i64 0)).setCell 4 (.bool false)).setCell 5 (.bool false)).setCell 6 (.bool false)).setCell 7 (.bool false)).setCell 8 (.int .i64 0)).setCell 9 (.int .i64 0)).setCell 10 (.bool false)).setCell 11 (.slice none 0 0)).setCell 12 (.string zb)
              replace HB := Lib.hid (HB.out.trans (hch.below hXw HX.out.c0.lt))
              replace HT := Lib.hid (HT.out.other hch hXt.symm)
              replace HU := Lib.hid (HU.out.other hch hXu.symm)
              skip
              generalize (((((((((((((y7.setCell ⟨X, 0, none⟩ (.int .i64 1)).setCell ⟨X, 1, none⟩ (.int .i64 2)).setCell ⟨X, 2, none⟩ (.int .i64 (addV p o))).setCell ⟨X, 3, none⟩ (.int .i64 0)).setCell ⟨X, 4, none⟩ (.bool false)).setCell ⟨X, 5, none⟩ (.bool false)).setCell ⟨X, 6, none⟩ (.bool false)).setCell ⟨X, 7, none⟩ (.bool false)).setCell ⟨X, 8, none⟩ (.int .i64 0)).setCell ⟨X, 9, none⟩ (.int .i64 0)).setCell ⟨X, 10, none⟩ (.bool false)).setCell ⟨X, 11, none⟩ (.slice none 0 0)).setCell ⟨X, 12, none⟩ (.string zb)) = yz at HB HT HU hD hch ⊢
              refine hKq.out _ _ (⟨(HB.out.cell (p := ⟨b, off + k * 2, none⟩) hbs).trans c0, (hch.block M (Array.getElem?_eq_some_iff.1 HM.out).1 hMX).trans HM.out⟩) (fun hHeld2 => ?_)
              clear hKq Kq hHeld
              (try simp only [Act.put, List.setIfInBounds_toArray, List.set_cons_zero, List.set_cons_succ])
              clear hHeld2
              refine wpAnyH_done (by kernel_rfl) ?_ _
              exact ⟨X, M, rfl, hD, hXw, hXt, hXu, HT.out, HU.out, HB.out⟩
          · go_simp
            have hb := sgBel v0 (.cells #[.int .i64 0, .int .i64 0, .int .i64 0, .int .i64 0, .bool false, .bool false, .bool false, .bool false, .int .i64 0, .int .i64 0, .bool false, .slice none 0 0, .string ⟨#[]⟩] 31)
            have HX := Lib.hid (show SgC v0.heap.size (.int .i64 0) (.int .i64 0) (.int .i64 0) (.int .i64 0) (.bool false) (.bool false) (.bool false) (.bool false) (.int .i64 0) (.int .i64 0) (.bool false) (.slice none 0 0) (.string ⟨#[]⟩) (v0.alloc (.cells #[.int .i64 0, .int .i64 0, .int .i64 0, .int .i64 0, .bool false, .bool false, .bool false, .bool false, .int .i64 0, .int .i64 0, .bool false, .slice none 0 0, .string ⟨#[]⟩] 31)) from SgC.new _ _ _ _ _ _ _ _ _ _ _ _ _ _ _)
            obtain ⟨X, hX⟩ : ∃ X, X = v0.heap.size := ⟨_, rfl⟩
            have hXw : w.heap.size ≤ X := by rw [hX]; exact HB.out.size
            have hXt : X ≠ Bt := by have := HT.out.lt; omega
            have hXu : X ≠ Bu := by have := HU.out.lt; omega
            rw [← hX] at HX ⊢
            replace HB := Lib.hid (HB.out.trans (hb.mono HB.out.size))
            replace HT := Lib.hid (HT.out.below hb)
            replace HU := Lib.hid (HU.out.below hb)
            clear hb hX
            generalize v0.alloc (.cells #[.int .i64 0, .int .i64 0, .int .i64 0, .int .i64 0, .bool false, .bool false, .bool false, .bool false, .int .i64 0, .int .i64 0, .bool false, .slice none 0 0, .string ⟨#[]⟩] 31) = y8 at HB HT HU HX ⊢
            refine hKq.out _ _ ((HB.out.cell (p := ⟨b, off + k * 2, none⟩) hbs).trans c0) (fun hHeld2 => ?_)
            clear hKq Kq hHeld
            (try simp only [Act.put, List.setIfInBounds_toArray, List.set_cons_zero, List.set_cons_succ])
            have hHeld := hHeld2
            clear hHeld2
            refine wpAnyH_ready (rs := [2, 9]) (by kernel_rfl) (by simp) ?_
            refine AllReadyH.cons (by simp only [List.getElem?_toArray, List.getElem?_cons_succ, List.getElem?_cons_zero]; rfl) (fun Kq hKq => ?_) (AllReadyH.cons (by simp only [List.getElem?_toArray, List.getElem?_cons_succ, List.getElem?_cons_zero]; rfl) (fun Kq hKq => ?_) AllReadyH.nil)
            · go_simp
              refine (seqadd_any p o _).mono ?_
              rintro e w9 ⟨rfl, rfl⟩
              go_simp
              refine hKq.out _ _ ((HB.out.cell (p := ⟨b, off + k * 2, none⟩) hbs).trans c0) (fun hHeld2 => ?_)
              clear hKq Kq hHeld
              (try simp only [Act.put, List.setIfInBounds_toArray, List.set_cons_zero, List.set_cons_succ])
              have hHeld := hHeld2
              clear hHeld2
              refine wpAnyH_ready (rs := [9]) (by kernel_rfl) (by simp) ?_
              refine AllReadyH.cons (by simp only [List.getElem?_toArray, List.getElem?_cons_succ, List.getElem?_cons_zero]; rfl) (fun Kq hKq => ?_) AllReadyH.nil
              go_simp
              have hb := sgBel y8 (.cells (Lib.byteCells (List.replicate zn 0)).toArray 5)
              have HM := Lib.hid (show ZeroAt y8.heap.size zn (y8.alloc (.cells (Lib.byteCells (List.replicate zn 0)).toArray 5)) from heap_alloc_new _ _)
              obtain ⟨M, hM⟩ : ∃ M, M = y8.heap.size := ⟨_, rfl⟩
              rw [← hM] at HM ⊢
              replace HX := Lib.hid (HX.out.below hb HX.out.c0.lt)
              replace HB := Lib.hid (HB.out.trans (hb.mono HB.out.size))
              replace HT := Lib.hid (HT.out.below hb)
              replace HU := Lib.hid (HU.out.below hb)
              clear hb hM
              generalize y8.alloc (.cells (Lib.byteCells (List.replicate zn 0)).toArray 5) = y9 at HB HT HU HM HX ⊢
              refine hKq.out _ _ ((HB.out.cell (p := ⟨b, off + k * 2, none⟩) hbs).trans c0) (fun hHeld2 => ?_)
              clear hKq Kq hHeld
              (try simp only [Act.put, List.setIfInBounds_toArray, List.set_cons_zero, List.set_cons_succ])
              have hHeld := hHeld2
              clear hHeld2
              refine wpAnyH_switch (S' := fun W : World => W.cell? ⟨b, off + k * 2, none⟩ = some (.int .u8 (zn : Int)) ∧ ZeroAt M zn W) (fun _ h => h.1) _ _ _ _ ?_
              replace hHeld : y9.cell? ⟨b, off + k * 2, none⟩ = some (.int .u8 (zn : Int)) ∧ ZeroAt M zn y9 := ⟨hHeld, HM.out⟩
              refine wpAnyH_take (i := 10) (v := ?_) (by simp only [List.getElem?_toArray, List.getElem?_cons_succ, List.getElem?_cons_zero]; rfl) (by kernel_rfl) (by kernel_rfl) (by kernel_rfl) (by exact fun _ _ _ h => h) (Or.inl ⟨by rfl, ?_⟩) (by assumption) ?_
              rotate_left 1
              · intro w hSw; (have hcv := HCV.out M _ hSw.2; obtain ⟨hSw1, -⟩ := hSw); go_simp; (try with_reducible rfl)
              (try simp only [Act.put, List.setIfInBounds_toArray, List.set_cons_zero, List.set_cons_succ])
              refine wpAnyH_take (i := 11) (v := ?_) (by simp only [List.getElem?_toArray, List.getElem?_cons_succ, List.getElem?_cons_zero]; rfl) (by kernel_rfl) (by kernel_rfl) (by kernel_rfl) (by exact fun _ _ _ h => h) (Or.inl ⟨by rfl, ?_⟩) (by assumption) ?_
              rotate_left 1
              · intro w hSw; (try dsimp only at hSw); go_simp; (try with_reducible rfl)
              (try simp only [Act.put, List.setIfInBounds_toArray, List.set_cons_zero, List.set_cons_succ])
              have hMX : M ≠ X := by
                intro e
                have h1 := HX.out.c0.1
                rw [← e, cell_of_row _ _ _ _ _ _ HM.out] at h1
                simp only [List.getElem?_toArray] at h1
                have h2 := List.mem_of_getElem? h1
                obtain ⟨u, -, hu⟩ := List.mem_map.1 h2
                cases hu
              obtain ⟨g0, f0⟩ := HX.out.c0
              obtain ⟨g1, f1⟩ := HX.out.c1
              obtain ⟨g2, f2⟩ := HX.out.c2
              obtain ⟨g3, f3⟩ := HX.out.c3
              obtain ⟨g4, f4⟩ := HX.out.c4
              obtain ⟨g5, f5⟩ := HX.out.c5
              obtain ⟨g6, f6⟩ := HX.out.c6
              obtain ⟨g7, f7⟩ := HX.out.c7
              obtain ⟨g8, f8⟩ := HX.out.c8
              obtain ⟨g9, f9⟩ := HX.out.c9
              obtain ⟨g10, f10⟩ := HX.out.c10
              obtain ⟨g11, f11⟩ := HX.out.c11
              obtain ⟨g12, f12⟩ := HX.out.c12
              refine wpAnyH_ready (rs := [13]) (by kernel_rfl) (by simp) ?_
              refine AllReadyH.cons (by simp only [List.getElem?_toArray, List.getElem?_cons_succ, List.getElem?_cons_zero]; rfl) (fun Kq hKq => ?_) AllReadyH.nil
              go_simp
              clear g0 f0 g1 f1 g2 f2 g3 f3 g4 f4 g5 f5 g6 f6 g7 f7 g8 f8 g9 f9 g10 f10 g11 f11 g12 f12
              have hD := (((((((((((((HX.out.set0 (.int .i64 1)).set1 (.int .i64 2)).set2 (.int .i64 (addV p o))).set3 (.int .i64 0)).set4 (.bool false)).set5 (.bool false)).set6 (.bool false)).set7 (.bool false)).set8 (.int .i64 0)).set9 (.int .i64 0)).set10 (.bool false)).set11 (.slice none 0 0)).set12 (.string zb))
              have hch := (((((((((((((Chg.refl X y9).setCell 0 (.int .i64 1)).setCell 1 (.int .i64 2)).setCell 2 (.int .i64 (addV p o))).setCell 3 (.int .i64 0)).setCell 4 (.bool false)).setCell 5 (.bool false)).setCell 6 (.bool false)).setCell 7 (.bool false)).setCell 8 (.int .i64 0)).setCell 9 (.int .i64 0)).setCell 10 (.bool false)).setCell 11 (.slice none 0 0)).setCell 12 (.string zb)
              replace HB := Lib.hid (HB.out.trans (hch.below hXw HX.out.c0.lt))
              replace HT := Lib.hid (HT.out.other hch hXt.symm)
              replace HU := Lib.hid (HU.out.other hch hXu.symm)
              skip
              generalize (((((((((((((y9.setCell ⟨X, 0, none⟩ (.int .i64 1)).setCell ⟨X, 1, none⟩ (.int .i64 2)).setCell ⟨X, 2, none⟩ (.int .i64 (addV p o))).setCell ⟨X, 3, none⟩ (.int .i64 0)).setCell ⟨X, 4, none⟩ (.bool false)).setCell ⟨X, 5, none⟩ (.bool false)).setCell ⟨X, 6, none⟩ (.bool false)).setCell ⟨X, 7, none⟩ (.bool false)).setCell ⟨X, 8, none⟩ (.int .i64 0)).setCell ⟨X, 9, none⟩ (.int .i64 0)).setCell ⟨X, 10, none⟩ (.bool false)).setCell ⟨X, 11, none⟩ (.slice none 0 0)).setCell ⟨X, 12, none⟩ (.string zb)) = yz at HB HT HU hD hch ⊢
              refine hKq.out _ _ (⟨(HB.out.cell (p := ⟨b, off + k * 2, none⟩) hbs).trans c0, (hch.block M (Array.getElem?_eq_some_iff.1 HM.out).1 hMX).trans HM.out⟩) (fun hHeld2 => ?_)
              clear hKq Kq hHeld
              (try simp only [Act.put, List.setIfInBounds_toArray, List.set_cons_zero, List.set_cons_succ])
              clear hHeld2
              refine wpAnyH_done (by kernel_rfl) ?_ _
              exact ⟨X, M, rfl, hD, hXw, hXt, hXu, HT.out, HU.out, HB.out⟩
            · go_simp
              have hb := sgBel y8 (.cells (Lib.byteCells (List.replicate zn 0)).toArray 5)
              have HM := Lib.hid (show ZeroAt y8.heap.size zn (y8.alloc (.cells (Lib.byteCells (List.replicate zn 0)).toArray 5)) from heap_alloc_new _ _)
              obtain ⟨M, hM⟩ : ∃ M, M = y8.heap.size := ⟨_, rfl⟩
              rw [← hM] at HM ⊢
              replace HX := Lib.hid (HX.out.below hb HX.out.c0.lt)
              replace HB := Lib.hid (HB.out.trans (hb.mono HB.out.size))
              replace HT := Lib.hid (HT.out.below hb)
              replace HU := Lib.hid (HU.out.below hb)
              clear hb hM
              generalize y8.alloc (.cells (Lib.byteCells (List.replicate zn 0)).toArray 5) = y10 at HB HT HU HM HX ⊢
              refine hKq.out _ _ ((HB.out.cell (p := ⟨b, off + k * 2, none⟩) hbs).trans c0) (fun hHeld2 => ?_)
              clear hKq Kq hHeld
              (try simp only [Act.put, List.setIfInBounds_toArray, List.set_cons_zero, List.set_cons_succ])
              have hHeld := hHeld2
              clear hHeld2
              refine wpAnyH_switch (S' := fun W : World => W.cell? ⟨b, off + k * 2, none⟩ = some (.int .u8 (zn : Int)) ∧ ZeroAt M zn W) (fun _ h => h.1) _ _ _ _ ?_
              replace hHeld : y10.cell? ⟨b, off + k * 2, none⟩ = some (.int .u8 (zn : Int)) ∧ ZeroAt M zn y10 := ⟨hHeld, HM.out⟩
              refine wpAnyH_take (i := 10) (v := ?_) (by simp only [List.getElem?_toArray, List.getElem?_cons_succ, List.getElem?_cons_zero]; rfl) (by kernel_rfl) (by kernel_rfl) (by kernel_rfl) (by exact fun _ _ _ h => h) (Or.inl ⟨by rfl, ?_⟩) (by assumption) ?_
              rotate_left 1
              · intro w hSw; (have hcv := HCV.out M _ hSw.2; obtain ⟨hSw1, -⟩ := hSw); go_simp; (try with_reducible rfl)
              (try simp only [Act.put, List.setIfInBounds_toArray, List.set_cons_zero, List.set_cons_succ])
              refine wpAnyH_ready (rs := [2]) (by kernel_rfl) (by simp) ?_
              refine AllReadyH.cons (by simp only [List.getElem?_toArray, List.getElem?_cons_succ, List.getElem?_cons_zero]; rfl) (fun Kq hKq => ?_) AllReadyH.nil
              go_simp
              refine (seqadd_any p o _).mono ?_
              rintro e w9 ⟨rfl, rfl⟩
              go_simp
              refine hKq.out _ _ (⟨(HB.out.cell (p := ⟨b, off + k * 2, none⟩) hbs).trans c0, HM.out⟩) (fun hHeld2 => ?_)
              clear hKq Kq hHeld
              (try simp only [Act.put, List.setIfInBounds_toArray, List.set_cons_zero, List.set_cons_succ])
              have hHeld := hHeld2
              clear hHeld2
              refine wpAnyH_take (i := 11) (v := ?_) (by simp only [List.getElem?_toArray, List.getElem?_cons_succ, List.getElem?_cons_zero]; rfl) (by kernel_rfl) (by kernel_rfl) (by kernel_rfl) (by exact fun _ _ _ h => h) (Or.inl ⟨by rfl, ?_⟩) (by assumption) ?_
              rotate_left 1
              · intro w hSw; (try dsimp only at hSw); go_simp; (try with_reducible rfl)
              (try simp only [Act.put, List.setIfInBounds_toArray, List.set_cons_zero, List.set_cons_succ])
              have hMX : M ≠ X := by
                intro e
                have h1 := HX.out.c0.1
                rw [← e, cell_of_row _ _ _ _ _ _ HM.out] at h1
                simp only [List.getElem?_toArray] at h1
                have h2 := List.mem_of_getElem? h1
                obtain ⟨u, -, hu⟩ := List.mem_map.1 h2
                cases hu
              obtain ⟨g0, f0⟩ := HX.out.c0
              obtain ⟨g1, f1⟩ := HX.out.c1
              obtain ⟨g2, f2⟩ := HX.out.c2
              obtain ⟨g3, f3⟩ := HX.out.c3
              obtain ⟨g4, f4⟩ := HX.out.c4
              obtain ⟨g5, f5⟩ := HX.out.c5
              obtain ⟨g6, f6⟩ := HX.out.c6
              obtain ⟨g7, f7⟩ := HX.out.c7
              obtain ⟨g8, f8⟩ := HX.out.c8
              obtain ⟨g9, f9⟩ := HX.out.c9
              obtain ⟨g10, f10⟩ := HX.out.c10
              obtain ⟨g11, f11⟩ := HX.out.c11
              obtain ⟨g12, f12⟩ := HX.out.c12
              refine wpAnyH_ready (rs := [13]) (by kernel_rfl) (by simp) ?_
              refine AllReadyH.cons (by simp only [List.getElem?_toArray, List.getElem?_cons_succ, List.getElem?_cons_zero]; rfl) (fun Kq hKq => ?_) AllReadyH.nil
              go_simp
              clear g0 f0 g1 f1 g2 f2 g3 f3 g4 f4 g5 f5 g6 f6 g7 f7 g8 f8 g9 f9 g10 f10 g11 f11 g12 f12
              have hD := (((((((((((((HX.out.set0 (.int .i64 1)).set1 (.int .i64 2)).set2 (.int .i64 (addV p o))).set3 (.int .i64 0)).set4 (.bool false)).set5 (.bool false)).set6 (.bool false)).set7 (.bool false)).set8 (.int .i64 0)).set9 (.int .i64 0)).set10 (.bool false)).set11 (.slice none 0 0)).set12 (.string zb))
              have hch := (((((((((((((Chg.refl X y10).setCell 0 (.int .i64 1)).setCell 1 (.int .i64 2)).setCell 2 (.int .i64 (addV p o))).setCell 3 (.int .i64 0)).setCell 4 (.bool false)).setCell 5 (.bool false)).setCell 6 (.bool false)).setCell 7 (.bool false)).setCell 8 (.int .i64 0)).setCell 9 (.int .i64 0)).setCell 10 (.bool false)).setCell 11 (.slice none 0 0)).setCell 12 (.string zb)
              replace HB := Lib.hid (HB.out.trans (hch.below hXw HX.out.c0.lt))
              replace HT := Lib.hid (HT.out.other hch hXt.symm)
              replace HU := Lib.hid (HU.out.other hch hXu.symm)
              skip
              generalize (((((((((((((y10.setCell ⟨X, 0, none⟩ (.int .i64 1)).setCell ⟨X, 1, none⟩ (.int .i64 2)).setCell ⟨X, 2, none⟩ (.int .i64 (addV p o))).setCell ⟨X, 3, none⟩ (.int .i64 0)).setCell ⟨X, 4, none⟩ (.bool false)).setCell ⟨X, 5, none⟩ (.bool false)).setCell ⟨X, 6, none⟩ (.bool false)).setCell ⟨X, 7, none⟩ (.bool false)).setCell ⟨X, 8, none⟩ (.int .i64 0)).setCell ⟨X, 9, none⟩ (.int .i64 0)).setCell ⟨X, 10, none⟩ (.bool false)).setCell ⟨X, 11, none⟩ (.slice none 0 0)).setCell ⟨X, 12, none⟩ (.string zb)) = yz at HB HT HU hD hch ⊢
              refine hKq.out _ _ (⟨(HB.out.cell (p := ⟨b, off + k * 2, none⟩) hbs).trans c0, (hch.block M (Array.getElem?_eq_some_iff.1 HM.out).1 hMX).trans HM.out⟩) (fun hHeld2 => ?_)
              clear hKq Kq hHeld
              (try simp only [Act.put, List.setIfInBounds_toArray, List.set_cons_zero, List.set_cons_succ])
              clear hHeld2
              refine wpAnyH_done (by kernel_rfl) ?_ _
              exact ⟨X, M, rfl, hD, hXw, hXt, hXu, HT.out, HU.out, HB.out⟩
        rintro a' W ⟨X, Y, rfl, hX, hXw, hXt, hXu, hT, hU, hB⟩
        clear HB HT HU d0 hmk hzw HCV
        have HX := Lib.hid hX
        have HT := Lib.hid hT
        have HU := Lib.hid hU
        have HB := Lib.hid hB
        clear hX hT hU hB
        have HDF := Lib.hid (diff_add2 p o (zn : Int) (by omega) (by omega))
        have HDG := Lib.hid (diff_add p (o + (zn : Int)) (by omega) (by omega))
        have HZS := Lib.hid (show (zb.size : Int) = (zn : Int) by rw [HZB.out]; show ((List.replicate zn 0).toArray.size : Int) = _; simp)
        clear HZB
        obtain ⟨g0, -⟩ := HX.out.c0
        obtain ⟨g1, -⟩ := HX.out.c1
        obtain ⟨g2, -⟩ := HX.out.c2
        obtain ⟨g3, -⟩ := HX.out.c3
        obtain ⟨g4, -⟩ := HX.out.c4
        obtain ⟨g5, -⟩ := HX.out.c5
        obtain ⟨g6, -⟩ := HX.out.c6
        obtain ⟨g7, -⟩ := HX.out.c7
        obtain ⟨g8, -⟩ := HX.out.c8
        obtain ⟨g9, -⟩ := HX.out.c9
        obtain ⟨g10, -⟩ := HX.out.c10
        obtain ⟨g11, -⟩ := HX.out.c11
        obtain ⟨g12, -⟩ := HX.out.c12
        go_wp2_with fail
        clear g0 g1 g2 g3 g4 g5 g6 g7 g8 g9 g10 g11 g12
        refine (len_data (addV p o) zb _).mono ?_
        rintro e v1 ⟨rfl, hb⟩
        rw [HZS.out]
        replace HX := Lib.hid (HX.out.below hb HX.out.c0.lt)
        replace HT := Lib.hid (HT.out.below hb)
        replace HU := Lib.hid (HU.out.below hb)
        replace HB := Lib.hid (HB.out.trans (hb.mono HB.out.size))
        clear hb
        go_wp2_with fail
        refine wp_region_held_drew (S := (fun W : World => SgC X (.int .i64 1) (.int .i64 2) (.int .i64 (addV p o)) (.int .i64 0) (.bool false) (.bool false) (.bool false) (.bool false) (.int .i64 0) (.int .i64 0) (.bool false) (.slice none 0 0) (.string zb) W)) (by kernel_rfl) (HX.out.below (Below.refl _ _).drew HX.out.c0.lt) (fun hHeld => ?_)
        replace HB := Lib.hid HB.out.drew
        replace HT := Lib.hid HT.out.drew
        replace HU := Lib.hid HU.out.drew
        replace HX := Lib.hid hHeld
        obtain ⟨v2, hv2⟩ : ∃ v2, v2 = v1.drew := ⟨_, rfl⟩
        rw [← hv2] at HB HT HU HX hHeld ⊢
        clear hv2
        refine wpAnyH_take (i := 0) (v := ?_) (by simp only [List.getElem?_toArray, List.getElem?_cons_zero]; rfl) (by kernel_rfl) (by kernel_rfl) (by kernel_rfl) (by exact fun _ _ _ h => h) (Or.inl ⟨by rfl, ?_⟩) (by assumption) ?_
        rotate_left 1
        · intro w hSw; (try dsimp only at hSw); go_simp; (try with_reducible rfl)
        (try simp only [Act.put, List.setIfInBounds_toArray, List.set_cons_zero, List.set_cons_succ])
        refine wpAnyH_take (i := 1) (v := ?_) (by simp only [List.getElem?_toArray, List.getElem?_cons_succ, List.getElem?_cons_zero]; rfl) (by kernel_rfl) (by kernel_rfl) (by kernel_rfl) (by exact fun _ _ _ h => h) (Or.inl ⟨by rfl, ?_⟩) (by assumption) ?_
        rotate_left 1
        · intro w hSw; (try dsimp only at hSw); go_simp; (try with_reducible rfl)
        (try simp only [Act.put, List.setIfInBounds_toArray, List.set_cons_zero, List.set_cons_succ])
        refine wpAnyH_take (i := 2) (v := ?_) (by simp only [List.getElem?_toArray, List.getElem?_cons_succ, List.getElem?_cons_zero]; rfl) (by kernel_rfl) (by kernel_rfl) (by kernel_rfl) (by exact fun _ _ _ h => h) (Or.inl ⟨by rfl, ?_⟩) (by assumption) ?_
        rotate_left 1
        · intro w hSw; (try dsimp only at hSw); go_simp; (try with_reducible rfl)
        (try simp only [Act.put, List.setIfInBounds_toArray, List.set_cons_zero, List.set_cons_succ])
        refine wpAnyH_take (i := 4) (v := ?_) (by simp only [List.getElem?_toArray, List.getElem?_cons_succ, List.getElem?_cons_zero]; rfl) (by kernel_rfl) (by kernel_rfl) (by kernel_rfl) (by exact fun _ _ _ h => h) (Or.inl ⟨by rfl, ?_⟩) (by assumption) ?_
        rotate_left 1
        · intro w hSw; (obtain ⟨⟨g0, -⟩, ⟨g1, -⟩, ⟨g2, -⟩, ⟨g3, -⟩, ⟨g4, -⟩, ⟨g5, -⟩, ⟨g6, -⟩, ⟨g7, -⟩, ⟨g8, -⟩, ⟨g9, -⟩, ⟨g10, -⟩, ⟨g11, -⟩, ⟨g12, -⟩⟩ := hSw); go_simp; (try with_reducible rfl)
        (try simp only [Act.put, List.setIfInBounds_toArray, List.set_cons_zero, List.set_cons_succ])
        refine wpAnyH_take (i := 7) (v := ?_) (by simp only [List.getElem?_toArray, List.getElem?_cons_succ, List.getElem?_cons_zero]; rfl) (by kernel_rfl) (by kernel_rfl) (by kernel_rfl) (by exact fun _ _ _ h => h) (Or.inl ⟨by rfl, ?_⟩) (by assumption) ?_
        rotate_left 1
        · intro w hSw; (try dsimp only at hSw); go_simp; (try with_reducible rfl)
        (try simp only [Act.put, List.setIfInBounds_toArray, List.set_cons_zero, List.set_cons_succ])
        refine wpAnyH_take (i := 3) (v := ?_) (by simp only [List.getElem?_toArray, List.getElem?_cons_succ, List.getElem?_cons_zero]; rfl) (by kernel_rfl) (by kernel_rfl) (by kernel_rfl) (by exact fun _ _ _ h => h) (Or.inl ⟨by rfl, ?_⟩) (by assumption) ?_
        rotate_left 1
        · intro w hSw; (obtain ⟨⟨g0, -⟩, ⟨g1, -⟩, ⟨g2, -⟩, ⟨g3, -⟩, ⟨g4, -⟩, ⟨g5, -⟩, ⟨g6, -⟩, ⟨g7, -⟩, ⟨g8, -⟩, ⟨g9, -⟩, ⟨g10, -⟩, ⟨g11, -⟩, ⟨g12, -⟩⟩ := hSw); go_simp; (try with_reducible rfl)
        (try simp only [Act.put, List.setIfInBounds_toArray, List.set_cons_zero, List.set_cons_succ])
        refine wpAnyH_ready (rs := [5]) (by kernel_rfl) (by simp) ?_
        refine AllReadyH.cons (by simp only [List.getElem?_toArray, List.getElem?_cons_succ, List.getElem?_cons_zero]; rfl) (fun Kq hKq => ?_) AllReadyH.nil
        go_simp
        refine (len_data (addV p o) zb _).mono ?_
        rintro e v3 ⟨rfl, hb⟩
        rw [HZS.out]
        replace HX := Lib.hid (HX.out.below hb HX.out.c0.lt)
        replace HT := Lib.hid (HT.out.below hb)
        replace HU := Lib.hid (HU.out.below hb)
        replace HB := Lib.hid (HB.out.trans (hb.mono HB.out.size))
        clear hb
        go_simp
        refine hKq.out _ _ (HX.out) (fun hHeld2 => ?_)
        clear hKq Kq hHeld
        (try simp only [Act.put, List.setIfInBounds_toArray, List.set_cons_zero, List.set_cons_succ])
        have hHeld := hHeld2
        clear hHeld2
        refine wpAnyH_ready (rs := [6]) (by kernel_rfl) (by simp) ?_
        refine AllReadyH.cons (by simp only [List.getElem?_toArray, List.getElem?_cons_succ, List.getElem?_cons_zero]; rfl) (fun Kq hKq => ?_) AllReadyH.nil
        go_simp
        refine (seqadd_any (addV p o) (zn : Int) _).mono ?_
        rintro e w9 ⟨rfl, rfl⟩
        go_simp
        refine hKq.out _ _ (HX.out) (fun hHeld2 => ?_)
        clear hKq Kq hHeld
        (try simp only [Act.put, List.setIfInBounds_toArray, List.set_cons_zero, List.set_cons_succ])
        have hHeld := hHeld2
        clear hHeld2
        refine wpAnyH_ready (rs := [8]) (by kernel_rfl) (by simp) ?_
        refine AllReadyH.cons (by simp only [List.getElem?_toArray, List.getElem?_cons_succ, List.getElem?_cons_zero]; rfl) (fun Kq hKq => ?_) AllReadyH.nil
        go_simp
        refine (diff_any _ p _).mono ?_
        rintro e w9 ⟨rfl, rfl⟩
        rw [HDF.out]
        go_simp
        refine hKq.out _ _ (HX.out) (fun hHeld2 => ?_)
        clear hKq Kq hHeld
        (try simp only [Act.put, List.setIfInBounds_toArray, List.set_cons_zero, List.set_cons_succ])
        have hHeld := hHeld2
        clear hHeld2
        refine wpAnyH_ready (rs := [9]) (by kernel_rfl) (by simp) ?_
        refine AllReadyH.cons (by simp only [List.getElem?_toArray, List.getElem?_cons_succ, List.getElem?_cons_zero]; rfl) (fun Kq hKq => ?_) AllReadyH.nil
        go_simp
        refine (sent_any Bt m now (o + (zn : Int)) _ HT.out).mono ?_
        rintro e v4 ⟨rfl, hT, hc⟩
        replace HB := Lib.hid (below_chg HB.out hNt HT.out.lt hc)
        replace HU := Lib.hid (HU.out.other hc hne.symm)
        replace HT := Lib.hid hT
        replace HX := Lib.hid (HX.out.chg hc hXt)
        clear hT hc
        go_simp
        refine hKq.out _ _ (HX.out) (fun hHeld2 => ?_)
        clear hKq Kq hHeld
        (try simp only [Act.put, List.setIfInBounds_toArray, List.set_cons_zero, List.set_cons_succ])
        have hHeld := hHeld2
        clear hHeld2
        refine wpAnyH_done (by kernel_rfl) ?_ _
        clear hHeld
        go_wp2_with fail
        refine (sent_any Bu m now (o + (zn : Int)) _ HU.out).mono ?_
        rintro e v5 ⟨rfl, hT, hc⟩
        replace HB := Lib.hid (below_chg HB.out hNu HU.out.lt hc)
        replace HT := Lib.hid (HT.out.other hc hne)
        replace HU := Lib.hid hT
        clear hT hc
        clear HX
        have d1 := (HB.out.cell (p := ⟨b, off + k * 2 + 1, none⟩) hbs).trans c1
        go_wp2_with fail
        clear d1
        refine (seqadd_any p (o + (zn : Int)) _).mono ?_
        rintro e w9 ⟨rfl, rfl⟩
        obtain ⟨q1, q2⟩ := addV_bd p (o + (zn : Int))
        generalize addV p (o + (zn : Int)) = q at q1 q2 HDG ⊢
        have HQ1 := Lib.hid q1
        have HQ2 := Lib.hid q2
        clear q1 q2
        go_wp2_with fail
        refine (ack_enc q HQ1.out HQ2.out _).mono ?_
        rintro e v6 ⟨rfl, hb⟩
        obtain ⟨en, hen⟩ : ∃ en : ByteArray, en = ⟨((ackSg q).encL 2 1).toArray⟩ := ⟨_, rfl⟩
        rw [← hen]
        have HEN := Lib.hid hen
        clear hen
        replace HT := Lib.hid (HT.out.below hb)
        replace HU := Lib.hid (HU.out.below hb)
        replace HB := Lib.hid (HB.out.trans (hb.mono HB.out.size))
        clear hb
        go_wp2_with fail
        refine (ack_dec q HQ1.out HQ2.out en HEN.out _).mono ?_
        rintro e v7 ⟨da, dc, dS, rfl, hb⟩
        replace HT := Lib.hid (HT.out.below hb)
        replace HU := Lib.hid (HU.out.below hb)
        replace HB := Lib.hid (HB.out.trans (hb.mono HB.out.size))
        clear hb
        go_wp2_with fail
        skip
        refine (diff_any q p _).mono ?_
        rintro e w9 ⟨rfl, rfl⟩
        rw [HDG.out]
        have hb := sgBel v7 (.cells #[.int .i64 2, .int .i64 1, .int .i64 0, .int .i64 q, .bool false, .bool false, .bool false, .bool true, .int .i64 0, .int .i64 0, .bool false, .slice da 0 dc, .string dS] 31)
        replace HT := Lib.hid (HT.out.below hb)
        replace HU := Lib.hid (HU.out.below hb)
        replace HB := Lib.hid (HB.out.trans (hb.mono HB.out.size))
        clear hb
        generalize v7.alloc (.cells #[.int .i64 2, .int .i64 1, .int .i64 0, .int .i64 q, .bool false, .bool false, .bool false, .bool true, .int .i64 0, .int .i64 0, .bool false, .slice da 0 dc, .string dS] 31) = v8 at HT HU HB ⊢
        go_wp2_with fail
        refine (acked_any Bt _ (now + y) (o + (zn : Int)) (by unfold In64; omega) (Tm.sent_fit hf _ _ (by unfold In64; omega)) _ HT.out).mono ?_
        rintro e v9 ⟨rfl, hT, hc⟩
        replace HB := Lib.hid (below_chg HB.out hNt HT.out.lt hc)
        replace HU := Lib.hid (HU.out.other hc hne.symm)
        replace HT := Lib.hid hT
        clear hT hc
        go_wp2_with fail
        refine (acked_any Bu _ (now + y) (o + (zn : Int)) (by unfold In64; omega) (Tm.sent_fit hf _ _ (by unfold In64; omega)) _ HU.out).mono ?_
        rintro e v10 ⟨rfl, hT, hc⟩
        replace HB := Lib.hid (below_chg HB.out hNu HU.out.lt hc)
        replace HT := Lib.hid (HT.out.other hc hne)
        replace HU := Lib.hid hT
        clear hT hc
        go_wp2_with fail
        refine (value_any Bt _ hf2.1 _ HT.out).mono ?_
        rintro e v11 ⟨rfl, hb⟩
        replace HT := Lib.hid (HT.out.below hb)
        replace HU := Lib.hid (HU.out.below hb)
        replace HB := Lib.hid (HB.out.trans (hb.mono HB.out.size))
        clear hb
        go_wp2_with fail
        refine (value_any Bu _ hf2.1 _ HU.out).mono ?_
        rintro e v12 ⟨rfl, hb⟩
        replace HT := Lib.hid (HT.out.below hb)
        replace HU := Lib.hid (HU.out.below hb)
        replace HB := Lib.hid (HB.out.trans (hb.mono HB.out.size))
        clear hb
        go_wp2_with fail
        go_roundw
        case rel => exact ⟨k + 1, by omega, by go_num, by rw [HS.out], by rw [HS.out], by rw [HS.out]; exact HT.out, by rw [HS.out]; exact HU.out, HB.out⟩
        case measure => simp [intOf]; omega
      · obtain rfl : k = 30 := by omega
        go_wp2_with fail
        go_ret
        exact ⟨rfl, hBk⟩
    · obtain rfl : k = len := by omega
      go_wp2_with fail
      go_ret
      exact ⟨rfl, hBk⟩
end Go.Proofs.Ytncjeleabpodaaa
