/- RecvBufCompletes: the law's walk. -/
import Derived.Test.YtfeppkgcimgkeaaRbSane
import Derived.Test.YtfeppkgcimgkeaaRbCoP
import Derived.Test.YtfeppkgcimgkeaaBlk
namespace Go.Proofs.Ytfeppkgcimgkeaa
open Go.RowKit Go.Shelf
theorem wrap64_small (n : Nat) (_h : 0 ≤ n) (h : n ≤ 1000000) : wrap64 (n : Int) = (n : Int) := by
  unfold wrap64
  omega
theorem cntP_int {n : Nat} (h : 1 ≤ n) : ((cntP n * n : Nat) : Int) = (50 + (n : Int) - 1) / (n : Int) * (n : Int) := by
  unfold cntP
  rw [Int.natCast_mul, Int.natCast_ediv, Int.natCast_sub (by omega), Int.natCast_add]
  rfl
theorem co_w1 (i k n : Nat) (h : (i + k) * n ≤ 100000) : wrap64 (((i : Int) + (k : Int)) * (n : Int)) = (((i + k) * n : Nat) : Int) := by
  rw [← Int.natCast_add, ← Int.natCast_mul]
  exact wrap64_small _ (by omega) (by omega)
theorem co_w2 (n : Nat) (h1 : 1 ≤ n) (h2 : n ≤ 9) : wrap64 ((50 + (n : Int) - 1) / (n : Int) * (n : Int)) = ((cntP n * n : Nat) : Int) := by
  rw [← cntP_int h1]
  have := cntP_bd h1 h2
  exact wrap64_small _ (by omega) (by omega)
theorem co_w3 (x M : Nat) : (x : Int).tmod (M : Int) = ((x % M : Nat) : Int) := by
  rw [Int.tmod_eq_emod_of_nonneg (by omega), Int.natCast_emod]
theorem app_list2 (a b : ByteArray) : (a ++ b).data.toList = a.data.toList ++ b.data.toList := by simp
/-- What the outer loop keeps: everything that was received has been read. -/
structure CoL (S : List UInt8) (B R lb : Nat) (w : World) (got : ByteArray) (wr : World) : Prop where
  ex : ∃ b, PI S 50 b got.data.toList ∧ b.nx = got.data.toList.length ∧ BoxAt B R lb b wr
  below : Below w.heap.size w wr
  lb : lb ≤ wr.heap.size
  apart : w.heap.size ≤ B ∧ w.heap.size ≤ R
/-- What the inner loop keeps. -/
structure CoW (S : List UInt8) (B R lb : Nat) (w : World) (got : ByteArray) (n k i : Nat) (wr : World) : Prop where
  ex : ∃ b, CoI S got.data.toList n k i b ∧ BoxAt B R lb b wr
  below : Below w.heap.size w wr
  lb : lb ≤ wr.heap.size
  apart : w.heap.size ≤ B ∧ w.heap.size ≤ R
set_option maxRecDepth 100000 in
set_option maxHeartbeats 4000000 in
theorem walk_RecvBufCompletes (w : World) (seed : Int) (hs0 : (Lit.int .i64 seed).wf = true) (room : Int) (hr0 : (Lit.int .i64 room).wf = true) (size : Int) (hz0 : (Lit.int .i64 size).wf = true) (a : Option Addr) (len cap : Nat) (zs : List Int) (hrow : IsRow .i64 w a len cap zs) :
    Calls Try.prog 5 #[.int .i64 seed, .int .i64 room, .int .i64 size, .slice a len cap] w fun e w' => e = .returned (.bool true) ∧ Below w.heap.size w w' := by
  have bs := bounds_i64 hs0
  have br := bounds_i64 hr0
  have bz := bounds_i64 hz0
  clear hs0 hr0 hz0
  have hlen : len ≤ 9223372036854775807 := by
    rcases Nat.eq_zero_or_pos len with h | h
    · omega
    · obtain ⟨b, off, -, h2, -⟩ := hrow.at h; unfold maxLen at h2; omega
  have HROW := Lib.hid hrow
  clear hrow
  obtain ⟨r, hr⟩ : ∃ r, r = pickV room 12 := ⟨_, rfl⟩
  have rb := pickV_bd room 12 (by omega)
  rw [← hr] at rb
  obtain ⟨r1, r2⟩ := rb
  have HR := Lib.hid (show ∀ W, Calls Try.prog 20 #[.int .i64 room, .int .i64 12] W fun rt_ w' => rt_ = .returned (.int .i64 r) ∧ W = w' from fun W => by rw [hr]; exact pick_any room 12 W br.1 br.2 (by omega) (by omega))
  clear hr
  obtain ⟨z, hz⟩ : ∃ z, z = pickV size 9 := ⟨_, rfl⟩
  have zb := pickV_bd size 9 (by omega)
  rw [← hz] at zb
  obtain ⟨z1, z2⟩ := zb
  have HZ := Lib.hid (show ∀ W, Calls Try.prog 20 #[.int .i64 size, .int .i64 9] W fun rt_ w' => rt_ = .returned (.int .i64 z) ∧ W = w' from fun W => by rw [hz]; exact pick_any size 9 W bz.1 bz.2 (by omega) (by omega))
  clear hz
  obtain ⟨rn, rfl⟩ := Int.eq_ofNat_of_zero_le r1
  obtain ⟨zn, rfl⟩ := Int.eq_ofNat_of_zero_le z1
  obtain ⟨n, hn⟩ : ∃ n : Nat, (1 : Int) + (zn : Int) = (n : Int) := ⟨1 + zn, by omega⟩
  have hn1 : 1 ≤ n := by omega
  have hn2 : n ≤ 9 := by omega
  have HN := Lib.hid hn
  clear hn
  have HNB := Lib.hid (show ∀ w0 : World, Calls Try.prog 11 #[.int .i64 (1 + (rn : Int))] w0 fun e w' => ∃ B R, e = .returned (.tuple #[.pointer (some ⟨B, 0, none⟩), .int .i64 0]) ∧ (∀ lb, BoxAt B R lb (bx0 (1 + rn)) w') ∧ Below w0.heap.size w0 w' ∧ w0.heap.size ≤ B ∧ w0.heap.size ≤ R from fun w0 => by
    have := new_box (1 + rn) (by omega) (by omega) w0
    rw [Int.natCast_add] at this
    exact this)
  obtain ⟨S, hS⟩ : ∃ S, S = strL (pickV seed 251) 50 := ⟨_, rfl⟩
  have hSl : S.length = 50 := by rw [hS, strL_length]
  have HSt := Lib.hid (show ∀ w0 : World, Calls Try.prog 19 #[.int .i64 seed, .int .i64 50] w0 fun e w' => e = .returned (.string ⟨S.toArray⟩) ∧ Below w0.heap.size w0 w' from fun w0 => by rw [hS]; exact stream_any seed 50 w0 bs.1 bs.2 (by omega) (by omega))
  obtain ⟨sB, hsB⟩ : ∃ sB : ByteArray, sB = ⟨S.toArray⟩ := ⟨_, rfl⟩
  rw [← hsB] at HSt
  have hsz : sB.size = 50 := by rw [hsB]; show S.toArray.size = 50; simpa using hSl
  have HSB := Lib.hid (show sB.data.toList = S by rw [hsB])
  have HSL := Lib.hid hSl
  have HSZ := Lib.hid hsz
  have hsz1 : sB.size ≤ 50 := by omega
  have hsz2 : 50 ≤ sB.size := by omega
  clear hS hsB hSl hsz bs br bz
  go_enter Try.func5, Try.ntmps5
  go_wp2_with fail
  refine (sanity_any _).mono ?_
  rintro e v0 ⟨rfl, hb0⟩
  have HB := Lib.hid hb0
  clear hb0
  go_wp2_with fail
  refine (HSt.out _).mono ?_
  rintro e v01 ⟨rfl, hb⟩
  replace HB := Lib.hid (HB.out.trans (hb.mono HB.out.size))
  clear hb
  go_wp2_with fail
  refine (HZ.out _).mono ?_
  rintro e w9 ⟨rfl, rfl⟩
  go_wp2_with fail
  rw [HN.out]
  refine (HR.out _).mono ?_
  rintro e w9 ⟨rfl, rfl⟩
  go_wp2_with fail
  refine (HNB.out _).mono ?_
  rintro e v1 ⟨B, R, rfl, hbox, hb, hB, hR⟩
  have hsB := HB.out.size
  have HL := Lib.hid (show CoL S B R v1.heap.size w ⟨#[]⟩ v1 from ⟨⟨_, PI.start HSL.out (by omega) (by omega) (by omega), rfl, hbox _⟩, HB.out.trans (hb.mono HB.out.size), Nat.le_refl _, by omega, by omega⟩)
  obtain ⟨lb, hlb⟩ : ∃ lb, lb = v1.heap.size := ⟨_, rfl⟩
  rw [← hlb] at HL
  clear hbox hb hB hR hsB hlb HB HNB HSt HR HZ
  go_wp2_with fail
  go_loopw [14, 15] (fun gv iv wr => ∃ (t : Nat) (got : ByteArray), gv = .string got ∧ iv = .int .i64 t ∧ t ≤ got.size ∧ CoL S B R lb w got wr) (fun _ iv _ => 60 - (intOf iv).toNat)
  case atStart => exact ⟨0, ⟨#[]⟩, rfl, rfl, Nat.zero_le _, HL.out⟩
  case round =>
    clear HL
    obtain ⟨t, got, rfl, rfl, htg, hL⟩ := hrel
    obtain ⟨b, hpi, hnx, hbox⟩ := hL.ex
    have hgl := hpi.got_le
    rw [Array.length_toList] at hgl
    replace hgl : got.size ≤ 50 := hgl
    have HL := Lib.hid hL
    have HI := Lib.hid hpi
    have HX := Lib.hid hbox
    have HNX := Lib.hid hnx
    clear hL hpi hbox hnx
    by_cases h50 : got.size < 50
    · have ht60 : t < 60 := by omega
      have hd50 : decide ((got.size : Int) < 50) = true := by rw [decide_eq_true_iff]; omega
      by_cases hl0 : 0 < len
      · obtain ⟨tb, to, rfl, -, htb, hcells⟩ := HROW.out.at hl0
        have hmod : (t : Int).tmod (len : Int) = ((t % len : Nat) : Int) := by rw [Int.tmod_eq_emod_of_nonneg (by omega)]; rfl
        have hml := Nat.mod_lt t hl0
        obtain ⟨j, hj⟩ : ∃ j, j = t % len := ⟨_, rfl⟩
        rw [← hj] at hmod hml
        obtain ⟨hc0, hwf⟩ := hcells j hml
        have hbx := bounds_i64 hwf
        generalize zs.getD j 0 = x at hc0 hbx
        have hcell := (HL.out.below.cell (p := ⟨tb, to + j, none⟩) htb).trans hc0
        clear hcells hc0 hwf hj htb
        go_wp2_with fail
        refine (pick_any x 1000 _ hbx.1 hbx.2 (by omega) (by omega)).mono ?_
        rintro e w9 ⟨rfl, rfl⟩
        have kb := pickV_bd x 1000 (by omega)
        generalize pickV x 1000 = kp at kb ⊢
        obtain ⟨kb1, kb2⟩ := kb
        obtain ⟨KP, rfl⟩ := Int.eq_ofNat_of_zero_le kb1
        obtain ⟨k, hk⟩ : ∃ k : Nat, (KP : Int) + (t : Int) = (k : Int) := ⟨KP + t, by omega⟩
        have hk2 : k ≤ 2000 := by omega
        have HK := Lib.hid hk
        clear hk
        have HW : Hid (CoW S B R lb w got n k 0 wr) := Lib.hid ⟨⟨b, ⟨HI.out, by rw [HNX.out]; exact Int.le_refl _, fun j hj => by omega⟩, HX.out⟩, HL.out.below, HL.out.lb, HL.out.apart⟩
        clear HX HI HNX
        go_wp2_with fail
        rw [HK.out]
        go_loopw [17] (fun iv wr => ∃ i : Nat, iv = .int .i64 i ∧ i ≤ 50 ∧ CoW S B R lb w got n k i wr) (fun iv _ => 50 - (intOf iv).toNat)
        case atStart => exact ⟨0, rfl, by omega, HW.out⟩
        case round =>
          clear HW
          obtain ⟨i, rfl, hi50, hW⟩ := hrel
          obtain ⟨b, hci, hbox⟩ := hW.ex
          have HW := Lib.hid hW
          have HC := Lib.hid hci
          have HX := Lib.hid hbox
          clear hW hci hbox
          by_cases hin : i * n < 50
          · have hin2 : (i : Int) * (n : Int) < 50 := by exact_mod_cast hin
            have hin3 : 0 ≤ (i : Int) * (n : Int) := by exact_mod_cast Nat.zero_le (i * n)
            have hx1 : (i + k) * n ≤ 100000 := by
              have := Nat.mul_le_mul (show i + k ≤ 2100 by omega) hn2
              omega
            have hlt := at_lt (i := i) (k := k) hn1 hn2
            obtain ⟨AT, hAT⟩ : ∃ AT, AT = (i + k) % cntP n * n := ⟨_, rfl⟩
            obtain ⟨x, hx⟩ : ∃ x, x = (i + k) * n := ⟨_, rfl⟩
            obtain ⟨M, hM⟩ : ∃ M, M = cntP n * n := ⟨_, rfl⟩
            have hMb := cntP_bd hn1 hn2
            have hM1 : 50 ≤ M := by omega
            have hM2 : M ≤ 60 := by omega
            rw [← hAT] at hlt
            have w1 := co_w1 i k n (by omega)
            have w2 := co_w2 n hn1 hn2
            have w3 := co_w3 x M
            rw [← hx] at w1
            rw [← hM] at w2
            rw [show x % M = AT by rw [hx, hM, hAT]; exact at_eq i k n (cntP n)] at w3
            have HAT := Lib.hid hAT
            have hmz : M ≠ 0 := by omega
            rw [← hx] at hx1
            clear hx hM hMb hAT
            obtain ⟨T, hT⟩ : ∃ T : Nat, T = min (AT + n) 50 := ⟨_, rfl⟩
            have hmin : min ((AT : Int) + (n : Int)) 50 = (T : Int) := by omega
            have t1 : AT ≤ T := by omega
            have t2 : T ≤ 50 := by omega
            have HT := Lib.hid hT
            clear hT
            go_wp2_with fail
            obtain ⟨pc, hpc⟩ : ∃ pc : ByteArray, pc = sB.extract AT T := ⟨_, rfl⟩
            rw [← hpc]
            have hpl : pc.data.toList = (S.drop AT).take (T - AT) := by rw [hpc, ByteArray.data_extract, Array.toList_extract, List.extract_eq_take_drop, HSB.out]
            rw [HT.out] at hpl
            have hps : pc.size ≤ 60 := by rw [hpc, ByteArray.size_extract]; omega
            have HPL := Lib.hid hpl
            clear hpc hpl hmin
            refine (put_any B R lb _ (AT : Int) pc _ HX.out HC.out.pi.ok HW.out.lb (by omega)).mono ?_
            rintro e u2 ⟨rfl, hx2, hc2⟩
            obtain ⟨hst, -⟩ := HC.out.step hn1 hn2 (by rw [Array.length_toList]; exact h50) HAT.out HPL.out
            have HS2 := Lib.hid (show CoW S B R lb w got n k (i + 1) u2 from ⟨⟨_, hst, hx2⟩, HW.out.below.trans (hc2.below HW.out.apart.1 HW.out.apart.2 HW.out.below.size), Nat.le_trans HW.out.lb hc2.size, HW.out.apart⟩)
            clear hst hx2 hc2
            have hi51 : i + 1 ≤ 50 := by
              rcases Nat.lt_or_ge i 50 with g | g
              · omega
              · have := Nat.mul_le_mul g hn1; omega
            go_wp2_with fail
            exact ⟨⟨i + 1, by simp, hi51, HS2.out⟩, by simp [intOf]; omega⟩
          · have hin2 : 50 ≤ (i : Int) * (n : Int) := by exact_mod_cast (show 50 ≤ i * n by omega)
            have hin3 : (i : Int) * (n : Int) ≤ 1000 := by
              have := Nat.mul_le_mul hi50 hn2
              exact_mod_cast (show i * n ≤ 1000 by omega)
            have hdn := HC.out.done hn1 hn2 (by rw [Array.length_toList]; exact h50) (by omega)
            rw [Array.length_toList] at hdn
            go_wp2_with fail
            have hrr := HC.out.pi.read (k := 50) (by have := HC.out.pi.nx; have := HC.out.pi.ok.rd0; omega)
            obtain ⟨q1, q2, q3, q4⟩ := HC.out.pi.take 50
            refine (take_any B R lb b 50 _ HX.out HC.out.pi.ok).mono ?_
            rintro e u1 ⟨rfl, hx1, hc1⟩
            obtain ⟨tB, htB⟩ : ∃ tB : ByteArray, tB = ⟨(b.takeS 50).toArray⟩ := ⟨_, rfl⟩
            rw [← htB]
            have htl : tB.data.toList = b.takeS 50 := by rw [htB]
            have hts : tB.size = (b.takeS 50).length := by rw [htB]; show (b.takeS 50).toArray.size = _; simp
            have hts2 : tB.size ≤ 60 := by have := HC.out.pi.nx; have := HC.out.pi.rd; omega
            rw [← htl, ← app_list2] at q1 hrr
            obtain ⟨hr1, hr2⟩ := hrr
            have hnew : got.size + 1 ≤ (got ++ tB).size := by show got.size + 1 ≤ (got ++ tB).data.size; rw [Array.length_toList] at hr1; have : (got.data.size : Int) = (got.size : Int) := rfl; omega
            have HS2 := Lib.hid (show CoL S B R lb w (got ++ tB) u1 from ⟨⟨_, q1, by rw [q2]; exact hr1.symm, hx1⟩, HW.out.below.trans ((Chg2.of1 hc1).below HW.out.apart.1 HW.out.apart.2 HW.out.below.size), Nat.le_trans HW.out.lb hc1.size, HW.out.apart⟩)
            clear htB htl hts q1 q2 q3 q4 hx1 hc1 hr1 hr2
            go_wp2_with fail
            exact ⟨⟨t + 1, got ++ tB, rfl, by simp, by omega, HS2.out⟩, by simp [intOf]; omega⟩
      · have HW : Hid (CoW S B R lb w got n t 0 wr) := Lib.hid ⟨⟨b, ⟨HI.out, by rw [HNX.out]; exact Int.le_refl _, fun j hj => by omega⟩, HX.out⟩, HL.out.below, HL.out.lb, HL.out.apart⟩
        clear HX HI HNX
        go_wp2_with fail
        go_loopw [17] (fun iv wr => ∃ i : Nat, iv = .int .i64 i ∧ i ≤ 50 ∧ CoW S B R lb w got n t i wr) (fun iv _ => 50 - (intOf iv).toNat)
        case atStart => exact ⟨0, rfl, by omega, HW.out⟩
        case round =>
          clear HW
          obtain ⟨i, rfl, hi50, hW⟩ := hrel
          obtain ⟨b, hci, hbox⟩ := hW.ex
          have HW := Lib.hid hW
          have HC := Lib.hid hci
          have HX := Lib.hid hbox
          clear hW hci hbox
          by_cases hin : i * n < 50
          · have hin2 : (i : Int) * (n : Int) < 50 := by exact_mod_cast hin
            have hin3 : 0 ≤ (i : Int) * (n : Int) := by exact_mod_cast Nat.zero_le (i * n)
            have hx1 : (i + t) * n ≤ 100000 := by
              have := Nat.mul_le_mul (show i + t ≤ 2100 by omega) hn2
              omega
            have hlt := at_lt (i := i) (k := t) hn1 hn2
            obtain ⟨AT, hAT⟩ : ∃ AT, AT = (i + t) % cntP n * n := ⟨_, rfl⟩
            obtain ⟨x, hx⟩ : ∃ x, x = (i + t) * n := ⟨_, rfl⟩
            obtain ⟨M, hM⟩ : ∃ M, M = cntP n * n := ⟨_, rfl⟩
            have hMb := cntP_bd hn1 hn2
            have hM1 : 50 ≤ M := by omega
            have hM2 : M ≤ 60 := by omega
            rw [← hAT] at hlt
            have w1 := co_w1 i t n (by omega)
            have w2 := co_w2 n hn1 hn2
            have w3 := co_w3 x M
            rw [← hx] at w1
            rw [← hM] at w2
            rw [show x % M = AT by rw [hx, hM, hAT]; exact at_eq i t n (cntP n)] at w3
            have HAT := Lib.hid hAT
            have hmz : M ≠ 0 := by omega
            rw [← hx] at hx1
            clear hx hM hMb hAT
            obtain ⟨T, hT⟩ : ∃ T : Nat, T = min (AT + n) 50 := ⟨_, rfl⟩
            have hmin : min ((AT : Int) + (n : Int)) 50 = (T : Int) := by omega
            have t1 : AT ≤ T := by omega
            have t2 : T ≤ 50 := by omega
            have HT := Lib.hid hT
            clear hT
            go_wp2_with fail
            obtain ⟨pc, hpc⟩ : ∃ pc : ByteArray, pc = sB.extract AT T := ⟨_, rfl⟩
            rw [← hpc]
            have hpl : pc.data.toList = (S.drop AT).take (T - AT) := by rw [hpc, ByteArray.data_extract, Array.toList_extract, List.extract_eq_take_drop, HSB.out]
            rw [HT.out] at hpl
            have hps : pc.size ≤ 60 := by rw [hpc, ByteArray.size_extract]; omega
            have HPL := Lib.hid hpl
            clear hpc hpl hmin
            refine (put_any B R lb _ (AT : Int) pc _ HX.out HC.out.pi.ok HW.out.lb (by omega)).mono ?_
            rintro e u2 ⟨rfl, hx2, hc2⟩
            obtain ⟨hst, -⟩ := HC.out.step hn1 hn2 (by rw [Array.length_toList]; exact h50) HAT.out HPL.out
            have HS2 := Lib.hid (show CoW S B R lb w got n t (i + 1) u2 from ⟨⟨_, hst, hx2⟩, HW.out.below.trans (hc2.below HW.out.apart.1 HW.out.apart.2 HW.out.below.size), Nat.le_trans HW.out.lb hc2.size, HW.out.apart⟩)
            clear hst hx2 hc2
            have hi51 : i + 1 ≤ 50 := by
              rcases Nat.lt_or_ge i 50 with g | g
              · omega
              · have := Nat.mul_le_mul g hn1; omega
            go_wp2_with fail
            exact ⟨⟨i + 1, by simp, hi51, HS2.out⟩, by simp [intOf]; omega⟩
          · have hin2 : 50 ≤ (i : Int) * (n : Int) := by exact_mod_cast (show 50 ≤ i * n by omega)
            have hin3 : (i : Int) * (n : Int) ≤ 1000 := by
              have := Nat.mul_le_mul hi50 hn2
              exact_mod_cast (show i * n ≤ 1000 by omega)
            have hdn := HC.out.done hn1 hn2 (by rw [Array.length_toList]; exact h50) (by omega)
            rw [Array.length_toList] at hdn
            go_wp2_with fail
            have hrr := HC.out.pi.read (k := 50) (by have := HC.out.pi.nx; have := HC.out.pi.ok.rd0; omega)
            obtain ⟨q1, q2, q3, q4⟩ := HC.out.pi.take 50
            refine (take_any B R lb b 50 _ HX.out HC.out.pi.ok).mono ?_
            rintro e u1 ⟨rfl, hx1, hc1⟩
            obtain ⟨tB, htB⟩ : ∃ tB : ByteArray, tB = ⟨(b.takeS 50).toArray⟩ := ⟨_, rfl⟩
            rw [← htB]
            have htl : tB.data.toList = b.takeS 50 := by rw [htB]
            have hts : tB.size = (b.takeS 50).length := by rw [htB]; show (b.takeS 50).toArray.size = _; simp
            have hts2 : tB.size ≤ 60 := by have := HC.out.pi.nx; have := HC.out.pi.rd; omega
            rw [← htl, ← app_list2] at q1 hrr
            obtain ⟨hr1, hr2⟩ := hrr
            have hnew : got.size + 1 ≤ (got ++ tB).size := by show got.size + 1 ≤ (got ++ tB).data.size; rw [Array.length_toList] at hr1; have : (got.data.size : Int) = (got.size : Int) := rfl; omega
            have HS2 := Lib.hid (show CoL S B R lb w (got ++ tB) u1 from ⟨⟨_, q1, by rw [q2]; exact hr1.symm, hx1⟩, HW.out.below.trans ((Chg2.of1 hc1).below HW.out.apart.1 HW.out.apart.2 HW.out.below.size), Nat.le_trans HW.out.lb hc1.size, HW.out.apart⟩)
            clear htB htl hts q1 q2 q3 q4 hx1 hc1 hr1 hr2
            go_wp2_with fail
            exact ⟨⟨t + 1, got ++ tB, rfl, by simp, by omega, HS2.out⟩, by simp [intOf]; omega⟩
    · have hg50 : got.size = 50 := by omega
      have hgS : got = sB := by
        apply ByteArray.ext
        apply Array.toList_inj.1
        rw [HSB.out, HI.out.got, Array.length_toList]
        exact List.take_of_length_le (by rw [HSL.out]; show 50 ≤ got.size; omega)
      subst hgS
      have hb50 : b.nx = 50 := by rw [HNX.out, Array.length_toList]; show (got.size : Int) = 50; omega
      have HB50 := Lib.hid hb50
      have hg1 : 50 ≤ got.size := by omega
      have ht : t < 60 := by omega
      clear hb50 hg50
      go_wp2_with fail
      refine (next_any B R lb b _ HX.out).mono ?_
      rintro e w9 ⟨rfl, rfl⟩
      rw [HB50.out]
      go_wp2_with fail
      go_ret
      exact ⟨rfl, HL.out.below⟩
end Go.Proofs.Ytfeppkgcimgkeaa
