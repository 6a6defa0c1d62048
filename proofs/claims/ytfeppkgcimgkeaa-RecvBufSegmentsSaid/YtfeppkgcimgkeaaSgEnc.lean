/- segment.Encode, at valid addresses and segments. -/
import Derived.Test.YtfeppkgcimgkeaaSgWr
import Derived.Test.YtfeppkgcimgkeaaWireCk
namespace Go.Proofs.Ytfeppkgcimgkeaa
open Go.RowKit
theorem Sg.wr_le (g : Sg) (ok : g.Ok) (sum : Nat) : (g.wr sum).length ≤ 1100 := by
  have := ok.slen
  have := ok.blen
  rw [Sg.wr_length]
  omega
set_option maxRecDepth 100000 in
set_option maxHeartbeats 4000000 in
theorem segenc_any (src dst : Int) (g : Sg) (n₀ : Nat) (a : Option Addr) (cap : Nat) (S : ByteArray) (w : World) (hs : 0 ≤ src ∧ src ≤ 4294967295) (hd : 0 ≤ dst ∧ dst ≤ 4294967295) (ok : g.Ok) (hS : S.data.toList = g.s) (hc : SpAt w n₀ a g.bl) (hn : n₀ ≤ w.heap.size) :
    Calls Try.prog 29 #[.int .i64 src, .int .i64 dst, .agg #[.int .i64 g.fp, .int .i64 g.tp, .int .i64 g.sq, .int .i64 g.ak, .bool g.syn, .bool g.fin, .bool g.rst, .bool g.has, .int .i64 g.win, .int .i64 g.mss, .bool g.sacks, .slice a g.bl.length cap, .string S]] w fun e w' => e = .returned (.tuple #[.string ⟨(g.encL src.toNat dst.toNat).toArray⟩, .int .i64 0]) ∧ Below w.heap.size w w' := by
  have HVA := Lib.hid (fun W (h : SpAt W n₀ a g.bl) (hn : n₀ ≤ W.heap.size) => segValid_yes g n₀ a cap S W ok hS h hn)
  have HWR := Lib.hid (fun sum W (h : SpAt W n₀ a g.bl) (hn : n₀ ≤ W.heap.size) (hsum : sum < 65536) => segwrite_any g n₀ a cap S sum W ok hS h hn hsum)
  have HLN := Lib.hid (g.wr_le ok 0)
  have HE := Lib.hid (show g.wr (cksum (g.psd src.toNat dst.toNat)) = g.encL src.toNat dst.toNat from rfl)
  have HPS := Lib.hid (show g.psd src.toNat dst.toNat = be 4 src.toNat ++ be 4 dst.toNat ++ (be 2 6 ++ be 2 (g.wr 0).length) ++ g.wr 0 from rfl)
  have HSP := Lib.hid hc
  have HN := Lib.hid (SgAt.new w g a cap S)
  generalize g.encL src.toNat dst.toNat = enc at HE ⊢
  generalize g.psd src.toNat dst.toNat = psd at HE HPS
  generalize g.wr = wr at HWR HLN HE HPS
  obtain ⟨fp, tp, sq, ak, syn, fin, rst, has, win, mss, sacks, bl, s⟩ := g
  clear ok hS hc
  dsimp only at HVA HWR HSP HN ⊢
  have HWB := Lib.hid (sgBel w (.cells #[.int .i64 fp, .int .i64 tp, .int .i64 sq, .int .i64 ak, .bool syn, .bool fin, .bool rst, .bool has, .int .i64 win, .int .i64 mss, .bool sacks, .slice a bl.length cap, .string S] 57))
  go_enter Try.func29, Try.ntmps29
  go_wp2_with fail
  generalize hW1 : w.alloc (.cells #[.int .i64 fp, .int .i64 tp, .int .i64 sq, .int .i64 ak, .bool syn, .bool fin, .bool rst, .bool has, .int .i64 win, .int .i64 mss, .bool sacks, .slice a bl.length cap, .string S] 57) = W1 at HN HWB ⊢
  clear hW1
  have HA := HN
  have HW := HWB
  clear HN HWB
  refine (addrValid_yes src _ hs).mono ?_
  rintro e w9 ⟨rfl, rfl⟩
  go_wp2_with fail
  refine (addrValid_yes dst _ hd).mono ?_
  rintro e w9 ⟨rfl, rfl⟩
  obtain ⟨z0, z1, z2, z3, z4, z5, z6, z7, z8, z9, z10, z11, z12⟩ := HA.out.cells
  dsimp only at z0 z1 z2 z3 z4 z5 z6 z7 z8 z9 z10 z11 z12
  go_wp2_with fail
  refine (HVA.out _ (HSP.out.below (HW.out.mono hn)) (Nat.le_trans hn HW.out.size)).mono ?_
  rintro e w2 ⟨rfl, hb1⟩
  replace HA := Lib.hid (HA.out.below hb1 HA.out.lt)
  replace HW := Lib.hid (HW.out.trans (hb1.mono HW.out.size))
  clear hb1 z0 z1 z2 z3 z4 z5 z6 z7 z8 z9 z10 z11 z12
  obtain ⟨z0, z1, z2, z3, z4, z5, z6, z7, z8, z9, z10, z11, z12⟩ := HA.out.cells
  dsimp only at z0 z1 z2 z3 z4 z5 z6 z7 z8 z9 z10 z11 z12
  go_wp2_with fail
  refine (HWR.out 0 _ (HSP.out.below (HW.out.mono hn)) (Nat.le_trans hn HW.out.size) (by omega)).mono ?_
  rintro e w3 ⟨rfl, hb1⟩
  replace HA := Lib.hid (HA.out.below hb1 HA.out.lt)
  replace HW := Lib.hid (HW.out.trans (hb1.mono HW.out.size))
  clear hb1 z0 z1 z2 z3 z4 z5 z6 z7 z8 z9 z10 z11 z12
  obtain ⟨bare, hbr⟩ : ∃ bare : ByteArray, bare = ⟨(wr 0).toArray⟩ := ⟨_, rfl⟩
  rw [← hbr]
  have HBR := Lib.hid (show bare.data.toList = wr 0 by rw [hbr])
  have hbl : bare.size ≤ 1100 := by rw [hbr, ba_size]; exact HLN.out
  clear hbr
  go_wp2_with fail
  refine (segput2 4 (by omega) (by omega) src dst (fits4 hs.1 hs.2) (fits4 hd.1 hd.2) w3 _ _ rfl).mono ?_
  rintro e w4 ⟨rfl, hb1⟩
  replace HA := Lib.hid (HA.out.below hb1 HA.out.lt)
  replace HW := Lib.hid (HW.out.trans (hb1.mono HW.out.size))
  obtain ⟨t1, hs1⟩ : ∃ t1 : ByteArray, t1 = ⟨(be 4 src.toNat ++ be 4 dst.toNat).toArray⟩ := ⟨_, rfl⟩
  rw [← hs1]
  have HS1 := Lib.hid (show t1.data.toList = be 4 src.toNat ++ be 4 dst.toNat by rw [hs1])
  have hs1l : t1.size ≤ 8 := by rw [hs1, ba_size]; simp only [List.length_append, be_length]; omega
  clear hs1 hb1
  go_wp2_with fail
  refine (segput2 2 (by omega) (by omega) 6 (bare.size : Int) (fits2 (by omega) (by omega)) (fits2 (by omega) (by omega)) w4 _ _ rfl).mono ?_
  rintro e w5 ⟨rfl, hb1⟩
  replace HA := Lib.hid (HA.out.below hb1 HA.out.lt)
  replace HW := Lib.hid (HW.out.trans (hb1.mono HW.out.size))
  obtain ⟨t2, hs1⟩ : ∃ t2 : ByteArray, t2 = ⟨(be 2 (6 : Int).toNat ++ be 2 (bare.size : Int).toNat).toArray⟩ := ⟨_, rfl⟩
  rw [← hs1]
  have HS2 := Lib.hid (show t2.data.toList = be 2 (6 : Int).toNat ++ be 2 (bare.size : Int).toNat by rw [hs1])
  have hs2l : t2.size ≤ 4 := by rw [hs1, ba_size]; simp only [List.length_append, be_length]; omega
  clear hs1 hb1
  go_wp2_with fail
  refine (checksum_any (t1 ++ t2 ++ bare) (by rw [ByteArray.size_append, ByteArray.size_append]; omega) _).mono ?_
  rintro e w6 ⟨rfl, hb1⟩
  replace HA := Lib.hid (HA.out.below hb1 HA.out.lt)
  replace HW := Lib.hid (HW.out.trans (hb1.mono HW.out.size))
  rw [show (t1 ++ t2 ++ bare).data.toList = psd by rw [HPS.out]; simp only [ByteArray.data_append, Array.toList_append, HS1.out, HS2.out, HBR.out]; rw [show (bare.size : Int).toNat = (wr 0).length by rw [← HBR.out, Array.length_toList]; rfl]; rfl]
  have hck := cksum_lt psd
  generalize cksum psd = ck at HE hck ⊢
  clear hb1
  obtain ⟨z0, z1, z2, z3, z4, z5, z6, z7, z8, z9, z10, z11, z12⟩ := HA.out.cells
  dsimp only at z0 z1 z2 z3 z4 z5 z6 z7 z8 z9 z10 z11 z12
  go_wp2_with fail
  refine (HWR.out ck _ (HSP.out.below (HW.out.mono hn)) (Nat.le_trans hn HW.out.size) hck).mono ?_
  rintro e w7 ⟨rfl, hb1⟩
  replace HA := Lib.hid (HA.out.below hb1 HA.out.lt)
  replace HW := Lib.hid (HW.out.trans (hb1.mono HW.out.size))
  clear hb1 z0 z1 z2 z3 z4 z5 z6 z7 z8 z9 z10 z11 z12
  rw [HE.out]
  go_wp2_with fail
  go_ret2
  exact ⟨rfl, HW.out⟩

end Go.Proofs.Ytfeppkgcimgkeaa
