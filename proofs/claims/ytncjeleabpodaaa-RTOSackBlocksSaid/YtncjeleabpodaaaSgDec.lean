/- segment.Decode, at encodings of valid segments. -/
import Derived.Test.YtncjeleabpodaaaSgRead
namespace Go.Proofs.Ytncjeleabpodaaa
open Go.RowKit
theorem dec_start {w W0 : World} {T2 : TypeId} (h : w.alloc (.cells #[.int .i64 0, .int .i64 0, .int .i64 0, .int .i64 0, .bool false, .bool false, .bool false, .bool false, .int .i64 0, .int .i64 0, .bool false, .slice none 0 0, .string ⟨#[]⟩] T2) = W0) :
    w.heap.size < W0.heap.size ∧ Hid (Row13 w.heap.size W0) ∧ Hid (Below w.heap.size w W0) := by
  subst h
  exact ⟨by simp, Lib.hid (fun i hi => ⟨_, At.new (vs := #[.int .i64 0, .int .i64 0, .int .i64 0, .int .i64 0, .bool false, .bool false, .bool false, .bool false, .int .i64 0, .int .i64 0, .bool false, .slice none 0 0, .string ⟨#[]⟩]) _ rfl (Array.getElem?_eq_getElem (by exact hi))⟩), Lib.hid ((Below.refl _ w).alloc (Nat.le_refl _) _)⟩
theorem OwnSp.ownG {W W' : World} {base : Nat} {v : Value} {L : List Sp} (h : OwnSp W base v L) (hb : Below W.heap.size W W') : OwnSp W' base v L := by
  refine h.kept (row := none) (grown_of_below hb) ?_
  cases v.ownBlock with
  | none => exact .inl rfl
  | some x => exact .inr (by simp)
theorem OwnSp.spAt {w : World} {base n cap : Nat} {a : Option Addr} {L : List Sp} (h : OwnSp w base (.slice a n cap) L) (hs : L.length ≤ 1099511627776) : SpAt w w.heap.size a L := by
  obtain ⟨a', cap', hv, hc, -⟩ := h.at hs
  cases hv
  exact hc
set_option maxRecDepth 100000 in
set_option maxHeartbeats 4000000 in
theorem segdec_any (src dst : Int) (g : Sg) (t : ByteArray) (w : World) (hs : 0 ≤ src ∧ src ≤ 4294967295) (hd : 0 ≤ dst ∧ dst ≤ 4294967295) (ok : g.Ok) (ht : t = ⟨(g.encL src.toNat dst.toNat).toArray⟩) :
    Calls Try.prog 18 #[.int .i64 src, .int .i64 dst, .string t] w fun e w' => ∃ a cap S, e = .returned (.tuple #[.agg #[.int .i64 g.fp, .int .i64 g.tp, .int .i64 g.sq, .int .i64 g.ak, .bool g.syn, .bool g.fin, .bool g.rst, .bool g.has, .int .i64 g.win, .int .i64 g.mss, .bool g.sacks, .slice a g.bl.length cap, .string S], .int .i64 0]) ∧ S.data.toList = g.s ∧ OwnSp w' w.heap.size (.slice a g.bl.length cap) g.bl ∧ Below w.heap.size w w' := by
  have HRD := Lib.hid (fun W => segread_any g (cksum (g.psd src.toNat dst.toNat)) t ok (cksum_lt _) (by rw [ht]; rfl) W)
  have HEN := Lib.hid (fun a cap S W hS hc hn => segenc_any src dst g W.heap.size a cap S W hs hd ok hS hc hn)
  have HTE := Lib.hid ht
  have HBL := Lib.hid (show g.bl.length ≤ 1099511627776 by have := ok.blen; omega)
  generalize g.encL src.toNat dst.toNat = enc at HEN HTE
  obtain ⟨fp, tp, sq, ak, syn, fin, rst, has, win, mss, sacks, bl, s⟩ := g
  clear ok ht
  dsimp only at HRD HEN HBL ⊢
  go_enter Try.func18, Try.ntmps18
  go_wp2_with fail
  generalize hW0 : w.alloc (.cells #[.int .i64 0, .int .i64 0, .int .i64 0, .int .i64 0, .bool false, .bool false, .bool false, .bool false, .int .i64 0, .int .i64 0, .bool false, .slice none 0 0, .string ⟨#[]⟩] 31) = W0
  obtain ⟨hRl, HR, HW⟩ := dec_start hW0
  clear hW0
  obtain ⟨R, hRd⟩ : ∃ R, R = w.heap.size := ⟨_, rfl⟩
  rw [← hRd] at hRl HR ⊢
  have hRw : w.heap.size ≤ R := by omega
  clear hRd
  refine (addrValid_yes src _ hs).mono ?_
  rintro e w9 ⟨rfl, rfl⟩
  go_wp2_with fail
  refine (addrValid_yes dst _ hd).mono ?_
  rintro e w9 ⟨rfl, rfl⟩
  go_wp2_with fail
  refine (HRD.out W0).mono ?_
  rintro e w1 ⟨a, cap, S, rfl, hS, hO, hb⟩
  have HS := Lib.hid hS
  replace HR := Lib.hid (HR.out.below hb hRl)
  replace HW := Lib.hid (HW.out.trans (hb.mono HW.out.size))
  have hw1 := hb.size
  have hO0 := hO.mono (base' := R + 1) (by omega)
  have HO := Lib.hid hO0
  clear hS hb hO hO0
  go_wp2_with fail
  have HA := Lib.hid (show SgAt w1.heap.size ⟨fp, tp, sq, ak, syn, fin, rst, has, win, mss, sacks, bl, s⟩ a cap S (w1.alloc (.cells #[.int .i64 fp, .int .i64 tp, .int .i64 sq, .int .i64 ak, .bool syn, .bool fin, .bool rst, .bool has, .int .i64 win, .int .i64 mss, .bool sacks, .slice a bl.length cap, .string S] 31)) from heap_alloc_new _ _)
  obtain ⟨B, hB⟩ : ∃ B, B = w1.heap.size := ⟨_, rfl⟩
  replace HO := Lib.hid (HO.out.alloc (.cells #[.int .i64 fp, .int .i64 tp, .int .i64 sq, .int .i64 ak, .bool syn, .bool fin, .bool rst, .bool has, .int .i64 win, .int .i64 mss, .bool sacks, .slice a bl.length cap, .string S] 31))
  replace HR := Lib.hid (HR.out.below (sgBelow w1 (.cells #[.int .i64 fp, .int .i64 tp, .int .i64 sq, .int .i64 ak, .bool syn, .bool fin, .bool rst, .bool has, .int .i64 win, .int .i64 mss, .bool sacks, .slice a bl.length cap, .string S] 31)) (by omega))
  replace HW := Lib.hid (HW.out.trans ((sgBelow w1 (.cells #[.int .i64 fp, .int .i64 tp, .int .i64 sq, .int .i64 ak, .bool syn, .bool fin, .bool rst, .bool has, .int .i64 win, .int .i64 mss, .bool sacks, .slice a bl.length cap, .string S] 31)).mono HW.out.size))
  have hBl : B < (w1.alloc (.cells #[.int .i64 fp, .int .i64 tp, .int .i64 sq, .int .i64 ak, .bool syn, .bool fin, .bool rst, .bool has, .int .i64 win, .int .i64 mss, .bool sacks, .slice a bl.length cap, .string S] 31)).heap.size := by rw [hB]; simp
  rw [← hB] at HA ⊢
  have hRB : R < B := by omega
  generalize w1.alloc (.cells #[.int .i64 fp, .int .i64 tp, .int .i64 sq, .int .i64 ak, .bool syn, .bool fin, .bool rst, .bool has, .int .i64 win, .int .i64 mss, .bool sacks, .slice a bl.length cap, .string S] 31) = w2 at HA HO HR HW hBl ⊢
  clear hB hw1
  obtain ⟨z0, z1, z2, z3, z4, z5, z6, z7, z8, z9, z10, z11, z12⟩ := HA.out.cells
  dsimp only at z0 z1 z2 z3 z4 z5 z6 z7 z8 z9 z10 z11 z12
  go_wp2_with fail
  refine (HEN.out a cap S w2 HS.out (HO.out.spAt HBL.out) (Nat.le_refl _)).mono ?_
  rintro e w3 ⟨rfl, hb⟩
  replace HA := Lib.hid (HA.out.below hb hBl)
  replace HR := Lib.hid (HR.out.below hb (by omega))
  replace HW := Lib.hid (HW.out.trans (hb.mono HW.out.size))
  replace HO := Lib.hid (HO.out.ownG hb)
  clear hb z0 z1 z2 z3 z4 z5 z6 z7 z8 z9 z10 z11 z12
  obtain ⟨z0, z1, z2, z3, z4, z5, z6, z7, z8, z9, z10, z11, z12⟩ := HA.out.cells
  dsimp only at z0 z1 z2 z3 z4 z5 z6 z7 z8 z9 z10 z11 z12
  obtain ⟨u0, u1, u2, u3, u4, u5, u6, u7, u8, u9, u10, u11, u12, HRC0⟩ := HR.out.sgc
  have HRC := Lib.hid HRC0
  clear HRC0
  obtain ⟨r0, q0⟩ := HRC.out.c0
  obtain ⟨r1, q1⟩ := HRC.out.c1
  obtain ⟨r2, q2⟩ := HRC.out.c2
  obtain ⟨r3, q3⟩ := HRC.out.c3
  obtain ⟨r4, q4⟩ := HRC.out.c4
  obtain ⟨r5, q5⟩ := HRC.out.c5
  obtain ⟨r6, q6⟩ := HRC.out.c6
  obtain ⟨r7, q7⟩ := HRC.out.c7
  obtain ⟨r8, q8⟩ := HRC.out.c8
  obtain ⟨r9, q9⟩ := HRC.out.c9
  obtain ⟨r10, q10⟩ := HRC.out.c10
  obtain ⟨r11, q11⟩ := HRC.out.c11
  obtain ⟨r12, q12⟩ := HRC.out.c12
  rw [← HTE.out]
  go_wp2_with fail
  clear z0 r0 q0 z1 r1 q1 z2 r2 q2 z3 r3 q3 z4 r4 q4 z5 r5 q5 z6 r6 q6 z7 r7 q7 z8 r8 q8 z9 r9 q9 z10 r10 q10 z11 r11 q11 z12 r12 q12
  have hD := (((((((((((((HRC.out.set0 (.int .i64 fp)).set1 (.int .i64 tp)).set2 (.int .i64 sq)).set3 (.int .i64 ak)).set4 (.bool syn)).set5 (.bool fin)).set6 (.bool rst)).set7 (.bool has)).set8 (.int .i64 win)).set9 (.int .i64 mss)).set10 (.bool sacks)).set11 (.slice a bl.length cap)).set12 (.string S))
  have hch2 := (((((((((((((Chg.refl R w3).setCell 0 (.int .i64 fp)).setCell 1 (.int .i64 tp)).setCell 2 (.int .i64 sq)).setCell 3 (.int .i64 ak)).setCell 4 (.bool syn)).setCell 5 (.bool fin)).setCell 6 (.bool rst)).setCell 7 (.bool has)).setCell 8 (.int .i64 win)).setCell 9 (.int .i64 mss)).setCell 10 (.bool sacks)).setCell 11 (.slice a bl.length cap)).setCell 12 (.string S)
  generalize (((((((((((((w3.setCell ⟨R, 0, none⟩ (.int .i64 fp)).setCell ⟨R, 1, none⟩ (.int .i64 tp)).setCell ⟨R, 2, none⟩ (.int .i64 sq)).setCell ⟨R, 3, none⟩ (.int .i64 ak)).setCell ⟨R, 4, none⟩ (.bool syn)).setCell ⟨R, 5, none⟩ (.bool fin)).setCell ⟨R, 6, none⟩ (.bool rst)).setCell ⟨R, 7, none⟩ (.bool has)).setCell ⟨R, 8, none⟩ (.int .i64 win)).setCell ⟨R, 9, none⟩ (.int .i64 mss)).setCell ⟨R, 10, none⟩ (.bool sacks)).setCell ⟨R, 11, none⟩ (.slice a bl.length cap)).setCell ⟨R, 12, none⟩ (.string S)) = W13 at hD hch2 ⊢
  have hO2 : OwnSp W13 (R + 1) (.slice a bl.length cap) bl := HO.out.kept (row := some R) ⟨hch2.os, hch2.tape, hch2.output, hch2.size, fun j hj hne => hch2.block j hj (fun e => hne (by rw [e]))⟩ (.inr (fun e => by have := (HO.out.lt _ e).1; omega))
  replace HW := Lib.hid (HW.out.trans (hch2.below (by omega) HRC.out.c0.lt))
  obtain ⟨⟨d0, -⟩, ⟨d1, -⟩, ⟨d2, -⟩, ⟨d3, -⟩, ⟨d4, -⟩, ⟨d5, -⟩, ⟨d6, -⟩, ⟨d7, -⟩, ⟨d8, -⟩, ⟨d9, -⟩, ⟨d10, -⟩, ⟨d11, -⟩, ⟨d12, -⟩⟩ := hD
  refine bodyPost_ret (v := .tuple #[.agg #[.int .i64 fp, .int .i64 tp, .int .i64 sq, .int .i64 ak, .bool syn, .bool fin, .bool rst, .bool has, .int .i64 win, .int .i64 mss, .bool sacks, .slice a bl.length cap, .string S], .int .i64 0]) (by simp [results, Try.results18, go_sem, d0, d1, d2, d3, d4, d5, d6, d7, d8, d9, d10, d11, d12]) rfl ⟨a, cap, S, rfl, HS.out, hO2.mono (by omega), HW.out⟩

end Go.Proofs.Ytncjeleabpodaaa
