/- WireCRCDetects: its walk. -/
import Derived.Test.YtldmkoicjpkdiaaWireZero
import Derived.Test.YtldmkoicjpkdiaaWireOrdPlain
import Derived.Test.YtldmkoicjpkdiaaWireBytes
import Derived.Test.YtldmkoicjpkdiaaCrcPlain
import Derived.RegionTactic
import Derived.BigRegion
import Derived.Deep.DeepCutAuto
import Derived.Deep.AppendLies
import Derived.Deep.RegionLaw
namespace Go.Proofs.Ytldmkoicjpkdiaa
open Go.RowKit
theorem xor3_app : ∀ (s t u : List UInt8) (a b c : UInt8), s.length = t.length → s.length = u.length → xor3 (s ++ [a]) (t ++ [b]) (u ++ [c]) = xor3 s t u ++ [a ^^^ b ^^^ c]
  | [], t, u, a, b, c, h1, h2 => by
    obtain rfl : t = [] := List.length_eq_zero_iff.1 h1.symm
    obtain rfl : u = [] := List.length_eq_zero_iff.1 h2.symm
    rfl
  | x :: s, [], u, a, b, c, h1, h2 => by simp at h1
  | x :: s, y :: t, [], a, b, c, h1, h2 => by simp at h2
  | x :: s, y :: t, z :: u, a, b, c, h1, h2 => by
    simp only [List.cons_append, xor3]
    rw [xor3_app s t u a b c (by simpa using h1) (by simpa using h2)]
theorem xor3_snoc (S t u : ByteArray) (k : Nat) (h1 : k < S.size) (h2 : k < t.size) (h3 : k < u.size) :
    xor3 (S.data.toList.take (k + 1)) (t.data.toList.take (k + 1)) (u.data.toList.take (k + 1)) = xor3 (S.data.toList.take k) (t.data.toList.take k) (u.data.toList.take k) ++ [S[k] ^^^ t[k] ^^^ u[k]] := by
  rw [take_snoc S k h1, take_snoc t k h2, take_snoc u k h3]
  have e1 : (S.data.toList.take k).length = k := by rw [List.length_take, size_toList]; omega
  have e2 : (t.data.toList.take k).length = k := by rw [List.length_take, size_toList]; omega
  have e3 : (u.data.toList.take k).length = k := by rw [List.length_take, size_toList]; omega
  exact xor3_app _ _ _ _ _ _ (by omega) (by omega)
def Later (w w' : World) : Prop := Below w.heap.size w w'
theorem Later.step {a b c : World} (h : Later a b) (k : Below b.heap.size b c) : Later a c := Below.trans h (k.mono (Below.size h))
theorem own_len {w : World} {base n : Nat} {v : Value} {l : List UInt8} (h : w.ownsRow base 5 1 v n (l.map fun c => Value.int .u8 (c.toNat : Int))) : l.length = n := by
  have := h.1
  simpa using this
theorem own_conv {w : World} {base n : Nat} {v : Value} {l : List UInt8} (h : w.ownsRow base 5 1 v n (l.map fun c => Value.int .u8 (c.toNat : Int))) :
    ∀ w', Later w w' → (convert 34 9 v).run Try.prog w' = .ok (.string ⟨l.toArray⟩) w' := by
  intro w' hb
  have hl := own_len h
  rcases h.2 with ⟨rfl, hn⟩ | ⟨g, cap, cur, rfl, hbg, hg, hnc, hcm, hcs, ht⟩
  · obtain rfl : l = [] := List.length_eq_zero_iff.1 (by omega)
    exact (by kernel_rfl : (convert 34 9 (.slice none 0 0)).run Try.prog w' = .ok (.string ⟨[].toArray⟩) w')
  · subst hl
    refine run_convert_bytes_back _ _ _ 5 _ _ l Try.underlying34 Try.underlying5 Try.underlying9 fun j hj => ?_
    have e : (⟨g, 0, none⟩ : Addr).add j = ⟨g, j, none⟩ := by unfold Addr.add; split <;> simp_all
    have hg' : w'.heap[g]? = some (.cells cur 5 (0, 0)) := by rw [Below.block hb g (Array.getElem?_eq_some_iff.1 hg).1]; exact hg
    rw [e, cell_of_row _ _ _ _ _ _ hg']
    have h2 : (cur.toList.take (l.length * 1))[j]? = some (.int .u8 (l[j].toNat : Int)) := by rw [ht]; simp [hj]
    rw [List.getElem?_take_of_lt (by omega)] at h2
    simpa using h2
theorem ext_take2 (T : ByteArray) (i : Nat) : (T.extract 0 i).data.toList = T.data.toList.take i := by simp
theorem crc3_neq (S t u LS : ByteArray) (k : Nat) (L : List UInt8) (hL : LS.data.toList = L) (h : crc (S.data.toList.take k) ^^^ crc (t.data.toList.take k) ^^^ crc (u.data.toList.take k) = crc L) :
    (bits .xor .i64 (bits .xor .i64 ((crc (S.data.toList.take k) : Nat) : Int) ((crc (t.data.toList.take k) : Nat) : Int)) ((crc (u.data.toList.take k) : Nat) : Int) != ((crc LS.data.toList : Nat) : Int)) = false := by
  rw [hL]
  have h1 := crc_lt (S.data.toList.take k)
  have h2 := crc_lt (t.data.toList.take k)
  have h3 := crc_lt (u.data.toList.take k)
  have h4 := xor_lt32 h1 h2
  rw [i64_xor_nat _ _ (by omega) (by omega), i64_xor_nat _ _ (by omega) (by omega), h]
  simp
theorem conv_y (W : World) (y : Nat) (hy : y < 256) : (convert 34 9 (.slice (some ⟨W.heap.size, 0, none⟩) 1 1)).run Try.prog ((W.alloc (.cells #[.int .u8 (y : Int)] 5)).drew) = .ok (.string ⟨#[UInt8.ofNat y]⟩) ((W.alloc (.cells #[.int .u8 (y : Int)] 5)).drew) := by
  have h := run_convert_bytes_back (P := Try.prog) ((W.alloc (.cells #[.int .u8 (y : Int)] 5)).drew) 34 9 5 ⟨W.heap.size, 0, none⟩ 1 [UInt8.ofNat y] Try.underlying34 Try.underlying5 Try.underlying9 ?_
  · exact h
  · intro j hj
    obtain rfl : j = 0 := by simp at hj; exact hj
    have hc : ((W.alloc (.cells #[.int .u8 (y : Int)] 5)).drew).cell? ⟨W.heap.size, 0, none⟩ = some (.int .u8 (y : Int)) := by
      show (W.alloc (.cells #[.int .u8 (y : Int)] 5)).cell? ⟨W.heap.size, 0, none⟩ = _
      rw [cell_of_row _ _ _ _ _ _ (heap_alloc_new _ _)]
      rfl
    show ((W.alloc (.cells #[.int .u8 (y : Int)] 5)).drew).cell? ⟨W.heap.size, 0, none⟩ = _
    rw [hc]
    simp
    omega
theorem crc_last (S V S1 Y S2 : ByteArray) (y p : Nat) (hy : (⟨#[UInt8.ofNat y]⟩ : ByteArray) = Y) (h1 : S.extract 0 p = S1) (h2 : S.extract (p + 1) S.size = S2) (hV : S1 ++ Y ++ S2 = V) (hp : p < S.size) :
    ((((crc S.data.toList : Nat) : Int) == ((crc V.data.toList : Nat) : Int)) == (S.toList == V.toList)) = true := by
  have hs : S.data.toList = S.data.toList.take p ++ S[p] :: S.data.toList.drop (p + 1) := by
    have hpl : p < S.data.toList.length := by rw [size_toList]; exact hp
    have h0 := (List.take_append_drop p S.data.toList).symm
    rw [List.drop_eq_getElem_cons hpl] at h0
    exact h0
  have hv : V.data.toList = S.data.toList.take p ++ UInt8.ofNat y :: S.data.toList.drop (p + 1) := by
    rw [← hV, ← hy, ← h1, ← h2]
    have e2 : (S.extract (p + 1) S.size).data.toList = S.data.toList.drop (p + 1) := by
      rw [ByteArray.data_extract, Array.toList_extract]
      simp [List.extract, List.take_of_length_le]
    rw [ByteArray.data_append, Array.toList_append, ByteArray.data_append, Array.toList_append, ext_take2, e2]
    simp
  rw [ByteArray.toList_eq, ByteArray.toList_eq]
  generalize S.data.toList.take p = l at hs hv
  generalize S.data.toList.drop (p + 1) = r at hs hv
  rw [hs, hv]
  have hc := crc_one l r S[p] (UInt8.ofNat y)
  by_cases hb : S[p] = UInt8.ofNat y
  · rw [hb]; simp
  · have hc' : ¬ crc (l ++ S[p] :: r) = crc (l ++ UInt8.ofNat y :: r) := fun h => hb (hc.1 h)
    have e1 : ((((crc (l ++ S[p] :: r) : Nat) : Int) == ((crc (l ++ UInt8.ofNat y :: r) : Nat) : Int))) = false := beq_eq_false_iff_ne.2 (by omega)
    have e2 : ((l ++ S[p] :: r) == (l ++ UInt8.ofNat y :: r)) = false := beq_eq_false_iff_ne.2 (by simp [hb])
    rw [e1, e2]; rfl
theorem info_u8 : (Try.prog.info? 5).map (fun i => (i.zero, i.size, i.bytes)) = some (some (.int .u8 0), 1, 1) := by kernel_rfl
set_option maxRecDepth 100000 in
set_option maxHeartbeats 6400000 in
theorem crcw_t (w : World) (s : ByteArray) (hs : s.size ≤ maxLen) (a : Int) (ha1 : -9223372036854775808 ≤ a) (ha2 : a ≤ 9223372036854775807) (y : Nat) (hy : y < 256) (t : ByteArray) (ht : t.size ≤ maxLen) (u : ByteArray) (hu : u.size ≤ maxLen) :
    Calls Try.prog 7 #[.string s, .int .i64 a, .int .u8 y, .string t, .string u] w fun r w' => r = .returned (.bool true) ∧ Below w.heap.size w w' := by
  unfold maxLen at hs ht hu
  go_enter Try.func7, Try.ntmps7
  go_upto_region 2 with (go_at_call 8; refine (sanity_any _).mono ?_; rintro r w0 ⟨rfl, hB0⟩)
  go_cut [0] (fun s0 wx => ∃ S : ByteArray, s0 = .string S ∧ S.size ≤ 300 ∧ w0 = wx)
  case first =>
    by_cases h3 : 300 < s.size
    · have hS : (s.extract 0 300).size ≤ 300 := by simp [ByteArray.size_extract]; omega
      go_wp2_with fail
      go_meet
      exact ⟨_, rfl, hS, rfl⟩
    · go_wp2_with fail
      go_meet
      exact ⟨_, rfl, by omega, rfl⟩
  case rest =>
    obtain ⟨S, rfl, hS, rfl⟩ := hcut
    go_upto_region 3 with fail
    go_cut [12] (fun s12 wx => ∃ n : Nat, s12 = .int .i64 n ∧ n ≤ S.size ∧ n ≤ t.size ∧ n ≤ u.size ∧ w0 = wx)
    case first =>
      go_wp2_with fail
      all_goals go_meet
      all_goals first | exact ⟨S.size, rfl, by omega, by omega, by omega, rfl⟩ | exact ⟨t.size, rfl, by omega, by omega, by omega, rfl⟩ | exact ⟨u.size, rfl, by omega, by omega, by omega, rfl⟩ | exact ⟨300, rfl, by omega, by omega, by omega, rfl⟩
    case rest =>
      obtain ⟨n, rfl, hn1, hn2, hn3, rfl⟩ := hcut
      obtain ⟨i0, hi, hz0, hz1, hz2⟩ := info_parts info_u8
      go_wp2_with fail
      go_loopw [13, 14] (fun v i wr => ∃ k : Nat, k ≤ n ∧ i = .int .i64 k ∧ wr.ownsRow w0.heap.size 5 1 v k ((xor3 (S.data.toList.take k) (t.data.toList.take k) (u.data.toList.take k)).map fun c => Value.int .u8 (c.toNat : Int)) ∧ Below w0.heap.size w0 wr) (fun _ i _ => n - (intOf i).toNat)
      case atStart => exact ⟨0, Nat.zero_le _, rfl, World.ownsRow_nil _ _ _ _, Below.refl _ _⟩
      case round =>
        obtain ⟨k, hk, rfl, hown, hB⟩ := hrel
        by_cases hlt : k < n
        · have f1 : (k : Int) < (S.size : Int) := by omega
          have f2 : (k : Int) < (t.size : Int) := by omega
          have f3 : (k : Int) < (u.size : Int) := by omega
          have hx3 : bits .xor .u8 (bits .xor .u8 (S[k].toNat : Int) (t[k].toNat : Int)) (u[k].toNat : Int) = (((S[k] ^^^ t[k] ^^^ u[k]).toNat : Nat) : Int) := by
            rw [u8_xor_nat _ _ S[k].toNat_lt t[k].toNat_lt, u8_xor_nat _ _ (Nat.xor_lt_two_pow (n := 8) S[k].toNat_lt t[k].toNat_lt) u[k].toNat_lt, UInt8.toNat_xor, UInt8.toNat_xor]
          have hsn := xor3_snoc S t u k (by omega) (by omega) (by omega)
          have HSN := Lib.hid hsn
          clear hsn
          generalize hcc : S[k] ^^^ t[k] ^^^ u[k] = c at hx3 HSN
          clear hcc
          go_wp2_with fail
          have hownA : ((wr.alloc (.cells #[.int .u8 (c.toNat : Int)] 5)).drew).ownsRow w0.heap.size 5 1 u13 k ((xor3 (S.data.toList.take k) (t.data.toList.take k) (u.data.toList.take k)).map fun c => Value.int .u8 (c.toNat : Int)) := hown.alloc _
          have hnews : ∀ (j : Nat) x, [Value.int .u8 (c.toNat : Int)][j]? = some x → ((wr.alloc (.cells #[.int .u8 (c.toNat : Int)] 5)).drew).cell? ((⟨wr.heap.size, 0, none⟩ : Addr).add j) = some x := cell_one_new _ _ _
          have hbase : w0.heap.size ≤ ((wr.alloc (.cells #[.int .u8 (c.toNat : Int)] 5)).drew).heap.size := by have := hB.size; show _ ≤ (wr.alloc _).heap.size; simp; omega
          have HA := Lib.hid hownA
          have HN := Lib.hid hnews
          have HBS := Lib.hid hbase
          clear hownA hnews hbase
          go_region_law (refine step_append_lies _ rfl (.tmp 37) (.tmp 49) 34 rfl w0.heap.size 5 i0 (.int .u8 0) 1 1 Try.underlying34 hi hz0 hz1 hz2 rfl (by decide) u13 k _ rfl HA.out ⟨wr.heap.size, 0, none⟩ 1 1 [.int .u8 (c.toNat : Int)] rfl rfl HN.out (by simp [Value.oneCell']) (by decide) (by unfold maxLen; omega) (by omega) HBS.out _ rfl ?_; intro g cap w3 hown3 hgrow hor hlt3)
          all_goals
            have hBB : Below w0.heap.size w0 w3 := ((hB.alloc hB.size (.cells #[.int .u8 (c.toNat : Int)] 5)).drew).grown hgrow HBS.out (fun r hr => (hown.lt r hr).1)
            clear HA HN hgrow hor hx3
            go_wp2_with fail
            go_roundw
            case rel => exact ⟨k + 1, by omega, by go_num, by rw [HSN.out, List.map_append]; exact hown3, hBB⟩
            case measure => simp [intOf]; omega
        · obtain rfl : k = n := by omega
          obtain ⟨L, hL⟩ : ∃ L, xor3 (S.data.toList.take k) (t.data.toList.take k) (u.data.toList.take k) = L := ⟨_, rfl⟩
          have hcr := crc_xor3 (S.data.toList.take k) (t.data.toList.take k) (u.data.toList.take k) (by rw [List.length_take, List.length_take, size_toList, size_toList]; omega) (by rw [List.length_take, List.length_take, size_toList, size_toList]; omega)
          rw [hL] at hcr hown
          have HCR := Lib.hid hcr
          have hcvA := own_conv hown
          have HCV := Lib.hid hcvA
          have hLl := own_len hown
          clear hL hcr hcvA hown
          have hZ : Later wr wr := Below.refl _ _
          have hZ2 : Later wr wr.drew := (Below.refl _ _).drew
          have hcv0 := HCV.out wr.drew hZ2
          have g1 : (S.extract 0 k).size ≤ maxLen := by unfold maxLen; simp [ByteArray.size_extract]; omega
          have g2 : (t.extract 0 k).size ≤ maxLen := by unfold maxLen; simp [ByteArray.size_extract]; omega
          have g3 : (u.extract 0 k).size ≤ maxLen := by unfold maxLen; simp [ByteArray.size_extract]; omega
          obtain ⟨LS, hLS⟩ : ∃ LS : ByteArray, (⟨L.toArray⟩ : ByteArray) = LS := ⟨_, rfl⟩
          rw [hLS] at hcv0 HCV
          have hLr : LS.data.toList = L := by rw [← hLS]
          have g4 : LS.size ≤ maxLen := by rw [← size_toList, hLr, hLl]; unfold maxLen; omega
          have HLr := Lib.hid hLr
          clear hLr hLS hLl
          go_upto_region 9 with fail
          have hfin := crc3_neq S t u LS k L HLr.out HCR.out
          have HFIN := Lib.hid hfin
          have e1 : (k : Int) ≤ (S.size : Int) := by omega
          have e2 : (k : Int) ≤ (t.size : Int) := by omega
          have e3 : (k : Int) ≤ (u.size : Int) := by omega
          have e0 : 0 ≤ (k : Int) := by omega
          clear hfin HCR
          go_cut [68] (fun b wx => b = .bool false ∧ ∃ W9, W9 = wx ∧ Later wr W9)
          case first =>
            go_region_with (go_at_call 16; refine (crc32_any _ _ (by first | exact g1 | exact g2 | exact g3 | exact g4)).mono ?_; rintro e w1 ⟨rfl, hb1⟩; have hl1 : Later wr w1 := Later.step (by assumption) hb1; have hcv1 := HCV.out w1 hl1)
            all_goals
              go_wp2_with fail
              go_meet
              exact ⟨by rw [HFIN.out], _, rfl, by assumption⟩
          case rest =>
            obtain ⟨rfl, W9, rfl, hLt⟩ := hcut
            clear HFIN hcv0 HCV hZ hZ2 g1 g2 g3 g4 HLr
            have hBB : Below w.heap.size w W9 := below_tr hB0 (Below.trans hB (Below.mono hLt hB.size))
            clear hLt hB
            by_cases hS0 : S.size = 0
            · have hSe : S = ⟨#[]⟩ := ByteArray.ext (Array.eq_empty_of_size_eq_zero hS0)
              subst hSe
              go_wp2_with fail
              refine (crc32_any ⟨#[]⟩ _ (by decide)).mono ?_
              rintro e w1 ⟨rfl, b1⟩
              rw [show crc ({ data := #[] } : ByteArray).data.toList = 0 by kernel_rfl]
              have hB1 := below_tr hBB b1
              go_wp2_with fail
              go_ret
              exact ⟨rfl, hB1⟩
            · have hSz : ((S.size : Int) == 0) = false := beq_eq_false_iff_ne.2 (by omega)
              go_wp2_with fail
              refine (pick_any a (S.size : Int) _ ha1 ha2 (by omega) (by omega)).mono ?_
              rintro r w1 ⟨rfl, rfl⟩
              obtain ⟨p1, p2⟩ := pickV_bd a (S.size : Int) (by omega)
              generalize pickV a (S.size : Int) = p at p1 p2 ⊢
              obtain ⟨p, rfl⟩ := Int.eq_ofNat_of_zero_le p1
              go_wp2_with fail
              clear ha1 ha2 hn1 hn2 hn3 e0 e1 e2 e3 hSz p1 hs ht hu
              have e1 : (p : Int) ≤ (S.size : Int) := by omega
              have e0 : 0 ≤ (p : Int) := by omega
              have e2 : IntKind.i64.wrap ((p : Int) + 1) = (p : Int) + 1 := IntWalk.i64_in _ (by omega)
              have e3 : 0 ≤ (p : Int) + 1 := by omega
              have e4 : (p : Int) + 1 ≤ (S.size : Int) := by omega
              have e5 : ((p : Int) + 1).toNat = p + 1 := by omega
              have hcvy : (convert 34 9 (.slice (some ⟨W9.heap.size, 0, none⟩) 1 1)).run Try.prog ((W9.alloc (.cells #[.int .u8 (y : Int)] 5)).drew) = .ok (.string ⟨#[UInt8.ofNat y]⟩) ((W9.alloc (.cells #[.int .u8 (y : Int)] 5)).drew) := conv_y W9 y hy
              have s1 : (S.extract 0 p).size = p := by simp [ByteArray.size_extract]; omega
              have s2 : (S.extract (p + 1) S.size).size = S.size - (p + 1) := by simp [ByteArray.size_extract]
              have s3 : (⟨#[UInt8.ofNat y]⟩ : ByteArray).size = 1 := rfl
              generalize hYY : (⟨#[UInt8.ofNat y]⟩ : ByteArray) = Y at hcvy s3
              generalize hS1 : S.extract 0 p = S1 at s1
              generalize hS2 : S.extract (p + 1) S.size = S2 at s2
              have HYY := Lib.hid hYY
              have HS1 := Lib.hid hS1
              have HS2 := Lib.hid hS2
              clear hYY
              have f1 : ¬ 9223372036854775807 < p + 1 := by omega
              have f2 : ¬ 9223372036854775807 < p + 1 + (S.size - (p + 1)) := by omega
              have f3 : ¬ 9223372036854775807 < S.size := by omega
              have f4 : p + 1 + (S.size - (p + 1)) = S.size := by omega
              go_region
              clear e0 e1 e2 e3 e4 e5 hcvy f1 f2 f3 f4 hS1 hS2
              have v1 : S.size ≤ maxLen := by unfold maxLen; omega
              have v2 : (S1 ++ Y ++ S2).size ≤ maxLen := by rw [ByteArray.size_append, ByteArray.size_append]; unfold maxLen; omega
              have hBC : Below w.heap.size w ((W9.alloc (.cells #[.int .u8 (y : Int)] 5)).drew) := (hBB.alloc hBB.size _).drew
              generalize (W9.alloc (.cells #[.int .u8 (y : Int)] 5)).drew = W10 at hBC ⊢
              generalize hV : S1 ++ Y ++ S2 = V at v2 ⊢
              have HV := Lib.hid hV
              clear hV s1 s2 s3 hBB
              go_wp2_with fail
              refine (crc32_any _ _ v1).mono ?_
              rintro e w1 ⟨rfl, hb1⟩
              have hB1 := below_tr hBC hb1
              clear hBC hb1
              go_wp2_with fail
              refine (crc32_any _ _ v2).mono ?_
              rintro e w2 ⟨rfl, hb2⟩
              have hB2 := below_tr hB1 hb2
              clear hB1 hb2
              have hlast := crc_last S V S1 Y S2 y p HYY.out HS1.out HS2.out HV.out (by omega)
              have HLAST := Lib.hid hlast
              clear hlast
              go_wp2_with fail
              rw [HLAST.out]
              go_ret
              exact ⟨rfl, hB2⟩
end Go.Proofs.Ytldmkoicjpkdiaa
