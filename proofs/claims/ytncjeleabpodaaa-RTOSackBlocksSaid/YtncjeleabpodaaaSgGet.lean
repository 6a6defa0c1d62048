/- segment.read: the closure get; what stands where in an encoding. -/
import Derived.Test.YtncjeleabpodaaaSgEnc
import Derived.Test.YtncjeleabpodaaaRgKit
import Derived.Test.YtncjeleabpodaaaChg
namespace Go.Proofs.Ytncjeleabpodaaa
open Go.RowKit
theorem sgat_chg {B C i : Nat} {v : Value} {w w' : World} (h : At B i v w) (hc : Chg C w w') (hne : B ≠ C) : At B i v w' := by
  have hb := hc.block B h.lt hne
  exact ⟨(World.cell?_of_block (a := ⟨B, i, none⟩) hb).trans h.1, (World.frozen?_of_block (a := ⟨B, i, none⟩) hb).trans h.2⟩
theorem sgcell_chg {B C i : Nat} {v : Value} {w w' : World} (h : w.cell? ⟨B, i, none⟩ = some v) (hc : Chg C w w') (hne : B ≠ C) : w'.cell? ⟨B, i, none⟩ = some v :=
  (World.cell?_of_block (a := ⟨B, i, none⟩) (hc.block B (block_lt_of_cell h) hne)).trans h
theorem getV_in {l : List UInt8} {o b : Nat} (hb1 : 1 ≤ b) (hb4 : b ≤ 4) (h : o + b ≤ l.length) : getV l (o : Int) (b : Int) = unbe ((l.drop o).take b) := by
  unfold getV
  rw [if_pos ⟨by omega, by omega, by omega, by omega⟩, Int.toNat_natCast, Int.toNat_natCast]
set_option maxHeartbeats 1000000 in
theorem sgget_any (T A : Nat) (t : ByteArray) (o b : Nat) (v : Int) (w : World) (hs : t.size ≤ 1099511627776) (hb1 : 1 ≤ b) (hb4 : b ≤ 4) (h : o + b ≤ t.size) (hv : ((unbe ((t.data.toList.drop o).take b) : Nat) : Int) = v) (hT : w.cell? ⟨T, 0, none⟩ = some (.string t)) (hA : At A 0 (.int .i64 (o : Int)) w) (hTA : T ≠ A) :
    Calls Try.prog 89 #[.int .i64 (b : Int), .pointer (some ⟨T, 0, none⟩), .pointer (some ⟨A, 0, none⟩)] w fun e w' => e = .returned (.int .i64 v) ∧ At A 0 (.int .i64 ((o : Int) + (b : Int))) w' ∧ Chg A w w' := by
  have HG := Lib.hid (fun W => get_any t (by omega) (o : Int) (b : Int) W)
  have HV := Lib.hid (show ((getV t.data.toList (o : Int) (b : Int) : Nat) : Int) = v by rw [getV_in hb1 hb4 (by rw [Array.length_toList]; exact h)]; exact hv)
  generalize getE t.data.toList (o : Int) (b : Int) = ge at HG
  have HA := Lib.hid hA
  have HX := Lib.hid hTA
  have hAl := hA.lt
  obtain ⟨a1, a2⟩ := hA
  clear hv hTA
  go_enter Try.func89, Try.ntmps89
  go_wp2_with fail
  refine (HG.out _).mono ?_
  rintro e w1 ⟨rfl, hb⟩
  have HC := Lib.hid (Chg.of_below (B := A) hb)
  replace HA := Lib.hid (HA.out.below hb hAl)
  have d1 := HA.out.1
  have d2 := HA.out.2
  rw [HV.out]
  clear hb a1 a2 hT
  go_wp2_with fail
  go_ret
  exact ⟨rfl, HA.out.set _, HC.out.setCell 0 _⟩
theorem get_of {L A B C : List UInt8} {a b n : Nat} (h : L = A ++ (B ++ C)) (ha : A.length = a) (hb : B = be b n) (hn : n < 256 ^ b) : unbe ((L.drop a).take b) = n := by
  subst hb
  rw [h, ← List.append_assoc, cut_at ha (be_length b n), unbe_be b n hn]
theorem Sg.wr_eq (g : Sg) (sum : Nat) : g.wr sum = be 2 g.fp.toNat ++ (be 2 g.tp.toNat ++ (be 4 g.sq.toNat ++ (be 4 g.ak.toNat ++ (be 1 g.flag ++ (be 1 g.bl.length ++ (be 2 g.win.toNat ++ (be 2 g.mss.toNat ++ (be 2 sum ++ (blkB g.bl ++ g.s))))))))) := by
  unfold Sg.wr Sg.head
  simp only [List.append_assoc]
theorem Sg.mss_le {g : Sg} (ok : g.Ok) : 0 ≤ g.mss ∧ g.mss ≤ 65535 := by
  cases hsy : g.syn with
  | false => have := (ok.mss hsy).1; omega
  | true => rcases ok.mssS hsy with h | h <;> omega
theorem Sg.at0 {g : Sg} (ok : g.Ok) (sum : Nat) : unbe (((g.wr sum).drop 0).take 2) = g.fp.toNat :=
  get_of (A := []) (g.wr_eq sum) rfl rfl (by have := ok.fp; show _ < 65536; omega)
theorem Sg.at2 {g : Sg} (ok : g.Ok) (sum : Nat) : unbe (((g.wr sum).drop 2).take 2) = g.tp.toNat :=
  get_of (A := be 2 g.fp.toNat) (g.wr_eq sum) (be_length _ _) rfl (by have := ok.tp; show _ < 65536; omega)
theorem Sg.at4 {g : Sg} (ok : g.Ok) (sum : Nat) : unbe (((g.wr sum).drop 4).take 4) = g.sq.toNat :=
  get_of (A := be 2 g.fp.toNat ++ be 2 g.tp.toNat) (by rw [g.wr_eq sum]; simp only [List.append_assoc]; rfl) (by simp [be_length]) rfl (by have := ok.sq; show _ < 4294967296; omega)
theorem Sg.at8 {g : Sg} (ok : g.Ok) (sum : Nat) : unbe (((g.wr sum).drop 8).take 4) = g.ak.toNat :=
  get_of (A := be 2 g.fp.toNat ++ (be 2 g.tp.toNat ++ be 4 g.sq.toNat)) (by rw [g.wr_eq sum]; simp only [List.append_assoc]; rfl) (by simp [be_length]) rfl (by have := ok.ak; show _ < 4294967296; omega)
theorem Sg.at12 {g : Sg} (sum : Nat) : unbe (((g.wr sum).drop 12).take 1) = g.flag :=
  get_of (A := be 2 g.fp.toNat ++ (be 2 g.tp.toNat ++ (be 4 g.sq.toNat ++ be 4 g.ak.toNat))) (by rw [g.wr_eq sum]; simp only [List.append_assoc]; rfl) (by simp [be_length]) rfl (by have := g.flag_lt; show _ < 256; omega)
theorem Sg.at13 {g : Sg} (ok : g.Ok) (sum : Nat) : unbe (((g.wr sum).drop 13).take 1) = g.bl.length :=
  get_of (A := be 2 g.fp.toNat ++ (be 2 g.tp.toNat ++ (be 4 g.sq.toNat ++ (be 4 g.ak.toNat ++ be 1 g.flag)))) (by rw [g.wr_eq sum]; simp only [List.append_assoc]; rfl) (by simp [be_length]) rfl (by have := ok.blen; show _ < 256; omega)
theorem Sg.at14 {g : Sg} (ok : g.Ok) (sum : Nat) : unbe (((g.wr sum).drop 14).take 2) = g.win.toNat :=
  get_of (A := be 2 g.fp.toNat ++ (be 2 g.tp.toNat ++ (be 4 g.sq.toNat ++ (be 4 g.ak.toNat ++ (be 1 g.flag ++ be 1 g.bl.length))))) (by rw [g.wr_eq sum]; simp only [List.append_assoc]; rfl) (by simp [be_length]) rfl (by have := ok.win; show _ < 65536; omega)
theorem Sg.at16 {g : Sg} (ok : g.Ok) (sum : Nat) : unbe (((g.wr sum).drop 16).take 2) = g.mss.toNat :=
  get_of (A := be 2 g.fp.toNat ++ (be 2 g.tp.toNat ++ (be 4 g.sq.toNat ++ (be 4 g.ak.toNat ++ (be 1 g.flag ++ (be 1 g.bl.length ++ be 2 g.win.toNat)))))) (by rw [g.wr_eq sum]; simp only [List.append_assoc]; rfl) (by simp [be_length]) rfl (by have := Sg.mss_le ok; show _ < 65536; omega)
theorem Sg.at18 {g : Sg} (sum : Nat) (h : sum < 65536) : unbe (((g.wr sum).drop 18).take 2) = sum :=
  get_of (A := be 2 g.fp.toNat ++ (be 2 g.tp.toNat ++ (be 4 g.sq.toNat ++ (be 4 g.ak.toNat ++ (be 1 g.flag ++ (be 1 g.bl.length ++ (be 2 g.win.toNat ++ be 2 g.mss.toNat))))))) (by rw [g.wr_eq sum]; simp only [List.append_assoc]; rfl) (by simp [be_length]) rfl h
theorem Sg.wr_blk (g : Sg) (sum k : Nat) (hk : k < g.bl.length) : g.wr sum = g.head ++ be 2 sum ++ blkB (g.bl.take k) ++ (be 4 g.bl[k].1.toNat ++ (be 4 g.bl[k].2.toNat ++ (blkB (g.bl.drop (k + 1)) ++ g.s))) := by
  have h : blkB g.bl = blkB (g.bl.take k) ++ (be 4 g.bl[k].1.toNat ++ be 4 g.bl[k].2.toNat ++ blkB (g.bl.drop (k + 1))) := by
    have e : g.bl = g.bl.take k ++ g.bl[k] :: g.bl.drop (k + 1) := by rw [← List.drop_eq_getElem_cons hk, List.take_append_drop]
    conv => lhs; rw [e]
    rw [blkB_append]
    rfl
  unfold Sg.wr
  rw [h]
  simp only [List.append_assoc]
theorem Sg.atA {g : Sg} (ok : g.Ok) (sum k : Nat) (hk : k < g.bl.length) : unbe (((g.wr sum).drop (20 + 8 * k)).take 4) = g.bl[k].1.toNat :=
  get_of (g.wr_blk sum k hk) (by simp [be_length, Sg.head_length, blkB_length]; omega) rfl (by have := (ok.blk _ (List.getElem_mem hk)).1; show _ < 4294967296; omega)
theorem Sg.atB {g : Sg} (ok : g.Ok) (sum k : Nat) (hk : k < g.bl.length) : unbe (((g.wr sum).drop (24 + 8 * k)).take 4) = g.bl[k].2.toNat :=
  get_of (A := g.head ++ be 2 sum ++ blkB (g.bl.take k) ++ be 4 g.bl[k].1.toNat) (by rw [g.wr_blk sum k hk, List.append_assoc _ (be 4 _)]) (by simp [be_length, Sg.head_length, blkB_length]; omega) rfl (by have := (ok.blk _ (List.getElem_mem hk)).2.1; show _ < 4294967296; omega)
theorem Sg.atS (g : Sg) (sum : Nat) : (g.wr sum).drop (20 + 8 * g.bl.length) = g.s := by
  unfold Sg.wr
  rw [List.drop_left' (by simp [be_length, Sg.head_length, blkB_length]; omega)]
end Go.Proofs.Ytncjeleabpodaaa
