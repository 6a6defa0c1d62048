/- RecvBufPrefix: the law's walk. -/
import Derived.Test.YtfeppkgcimgkeaaRbSane
import Derived.Test.YtfeppkgcimgkeaaRbPfP
import Derived.Test.YtfeppkgcimgkeaaRbCalls
namespace Go.Proofs.Ytfeppkgcimgkeaa
open Go.RowKit Go.Shelf
theorem app_list (a b : ByteArray) : (a ++ b).data.toList = a.data.toList ++ b.data.toList := by simp
/-- What the loop keeps. -/
structure PfL (S : List UInt8) (N cap B R lb : Nat) (w : World) (got : ByteArray) (wr : World) : Prop where
  ex : ∃ b, PI S N b got.data.toList ∧ BoxAt B R lb b wr ∧ b.ring.length = cap
  below : Below w.heap.size w wr
  lb : lb ≤ wr.heap.size
  apart : w.heap.size ≤ B ∧ w.heap.size ≤ R
set_option maxRecDepth 100000 in
set_option maxHeartbeats 4000000 in
theorem walk_RecvBufPrefix (w : World) (seed : Int) (hs0 : (Lit.int .i64 seed).wf = true) (room : Int) (hr0 : (Lit.int .i64 room).wf = true) (a : Option Addr) (len cap : Nat) (cs : Nat → Cl) (hcs : IsCalls w a len cs) :
    Calls Try.prog 4 #[.int .i64 seed, .int .i64 room, .slice a len cap] w fun e w' => e = .returned (.bool true) ∧ Below w.heap.size w w' := by
  have bs := bounds_i64 hs0
  have br := bounds_i64 hr0
  clear hs0 hr0
  have hlen := hcs.1
  unfold maxLen at hlen
  have HCS := Lib.hid hcs.2
  clear hcs
  obtain ⟨r, hr⟩ : ∃ r, r = pickV room 70 := ⟨_, rfl⟩
  have rb := pickV_bd room 70 (by omega)
  rw [← hr] at rb
  obtain ⟨r1, r2⟩ := rb
  have HR := Lib.hid (show ∀ W, Calls Try.prog 20 #[.int .i64 room, .int .i64 70] W fun rt_ w' => rt_ = .returned (.int .i64 r) ∧ W = w' from fun W => by rw [hr]; exact pick_any room 70 W br.1 br.2 (by omega) (by omega))
  clear hr
  obtain ⟨rn, rfl⟩ := Int.eq_ofNat_of_zero_le r1
  have HNB := Lib.hid (show ∀ w0 : World, Calls Try.prog 11 #[.int .i64 (1 + (rn : Int))] w0 fun e w' => ∃ B R, e = .returned (.tuple #[.pointer (some ⟨B, 0, none⟩), .int .i64 0]) ∧ (∀ lb, BoxAt B R lb (bx0 (1 + rn)) w') ∧ Below w0.heap.size w0 w' ∧ w0.heap.size ≤ B ∧ w0.heap.size ≤ R from fun w0 => by
    have := new_box (1 + rn) (by omega) (by omega) w0
    rw [Int.natCast_add] at this
    exact this)
  obtain ⟨S, hS⟩ : ∃ S, S = strL (pickV seed 251) 60 := ⟨_, rfl⟩
  have hSl : S.length = 60 := by rw [hS, strL_length]
  have HSt := Lib.hid (show ∀ w0 : World, Calls Try.prog 19 #[.int .i64 seed, .int .i64 60] w0 fun e w' => e = .returned (.string ⟨S.toArray⟩) ∧ Below w0.heap.size w0 w' from fun w0 => by rw [hS]; exact stream_any seed 60 w0 bs.1 bs.2 (by omega) (by omega))
  obtain ⟨sB, hsB⟩ : ∃ sB : ByteArray, sB = ⟨S.toArray⟩ := ⟨_, rfl⟩
  rw [← hsB] at HSt
  have hsz : sB.size = 60 := by rw [hsB]; show S.toArray.size = 60; simpa using hSl
  have HSB := Lib.hid (show sB.data.toList = S by rw [hsB])
  have HSL := Lib.hid hSl
  have HSZ := Lib.hid hsz
  have hsz1 : sB.size ≤ 60 := by omega
  have hsz2 : 60 ≤ sB.size := by omega
  clear hS hsB hSl hsz bs br
  go_enter Try.func4, Try.ntmps4
  go_wp2_with fail
  refine (sanity_any _).mono ?_
  rintro e v0 ⟨rfl, hb0⟩
  have HB := Lib.hid hb0
  clear hb0
  go_wp2_with fail
  refine (HSt.out _).mono ?_
  rintro e v01 ⟨rfl, hb⟩
  replace HB := Lib.hid (HB.out.trans (hb.mono HB.out.size))
  clear hb
  go_wp2_with fail
  refine (HR.out _).mono ?_
  rintro e w9 ⟨rfl, rfl⟩
  go_wp2_with fail
  refine (HNB.out _).mono ?_
  rintro e v1 ⟨B, R, rfl, hbox, hb, hB, hR⟩
  have hsB := HB.out.size
  have HL := Lib.hid (show PfL S 60 (1 + rn) B R v1.heap.size w ⟨#[]⟩ v1 from ⟨⟨_, PI.start HSL.out (by omega) (by omega) (by omega), hbox _, by simp [bx0]⟩, HB.out.trans (hb.mono HB.out.size), Nat.le_refl _, by omega, by omega⟩)
  obtain ⟨lb, hlb⟩ : ∃ lb, lb = v1.heap.size := ⟨_, rfl⟩
  rw [← hlb] at HL
  clear hbox hb hB hR hsB hlb HB HNB HSt HR
  go_wp2_with fail
  go_loopw [11, 12] (fun gv iv wr => ∃ (i : Nat) (got : ByteArray), gv = .string got ∧ iv = .int .i64 i ∧ i ≤ 40 ∧ PfL S 60 (1 + rn) B R lb w got wr) (fun _ iv _ => 40 - (intOf iv).toNat)
  case atStart => exact ⟨0, ⟨#[]⟩, rfl, rfl, by omega, HL.out⟩
  case round =>
    clear HL
    obtain ⟨i, got, rfl, rfl, hi40, hL⟩ := hrel
    obtain ⟨b, hpi, hbox, hring⟩ := hL.ex
    have HL := Lib.hid hL
    have HI := Lib.hid hpi
    have HX := Lib.hid hbox
    have HRG := Lib.hid hring
    have hgl := hpi.got_le
    have hgs : got.size ≤ 60 := by rw [Array.length_toList] at hgl; exact hgl
    clear hL hpi hbox hring hgl
    by_cases h1 : i < len
    · by_cases h2 : i < 40
      · obtain ⟨cb, co, rfl, hcl, hca⟩ := HCS.out (by omega)
        have HCA := Lib.hid (show ∀ W, Below w.heap.size w W → Cl.At W cb (co + i * 4) (cs i) from fun W hW => (hca i h1).below hW hcl)
        generalize cs i = c at HCA
        obtain ⟨kd, of, st, n⟩ := c
        obtain ⟨c0, c1, c2, c3, ⟨k1, k2⟩, hof, hst, hn⟩ := HCA.out _ HL.out.below
        dsimp only at c0 c1 c2 c3 k1 k2 hof hst hn
        clear hca
        by_cases hk : kd % 3 = 2
        · have HB := Lib.hid HL.out.below
          have HLB := Lib.hid HL.out.lb
          go_wp2_with fail
          refine (pick_any n 20 _ hn.1 hn.2 (by omega) (by omega)).mono ?_
          rintro e w9 ⟨rfl, rfl⟩
          have pb := pickV_bd n 20 (by omega)
          generalize pickV n 20 = p at pb ⊢
          obtain ⟨pb1, pb2⟩ := pb
          go_wp2_with fail
          refine (take_any B R lb b p _ HX.out HI.out.ok).mono ?_
          rintro e u1 ⟨rfl, hx1, hc1⟩
          obtain ⟨q1, q2, q3, q4⟩ := HI.out.take p
          obtain ⟨tB, htB⟩ : ∃ tB : ByteArray, tB = ⟨(b.takeS p).toArray⟩ := ⟨_, rfl⟩
          rw [← htB]
          have htl : tB.data.toList = b.takeS p := by rw [htB]
          have hts : tB.size = (b.takeS p).length := by rw [htB]; show (b.takeS p).toArray.size = _; simp
          have hts2 : tB.size ≤ 60 := by have := HI.out.nx; have := HI.out.rd; omega
          rw [← htl] at q1
          rw [← app_list] at q1
          generalize b.take p = b1 at *
          replace HI := Lib.hid q1
          replace HX := Lib.hid hx1
          replace HB := Lib.hid (HB.out.trans ((Chg2.of1 hc1).below HL.out.apart.1 HL.out.apart.2 HB.out.size))
          replace HLB := Lib.hid (Nat.le_trans HLB.out hc1.size)
          replace HRG := Lib.hid (q3.trans HRG.out)
          obtain ⟨c0, c1, c2, c3, -, -, -, -⟩ := HCA.out _ HB.out
          dsimp only at c0 c1 c2 c3
          clear htB htl hts q1 q2 q3 q4 hx1 hc1
          go_wp2_with fail
          obtain ⟨gn, hgn⟩ : ∃ gn : ByteArray, gn = got ++ tB := ⟨_, rfl⟩
          rw [← hgn]
          rw [← hgn] at HI
          clear hgn
          have hgl := HI.out.got_le
          rw [Array.length_toList] at hgl
          replace hgs : gn.size ≤ 60 := hgl
          clear hgl
          refine (pick_any of 60 _ hof.1 hof.2 (by omega) (by omega)).mono ?_
          rintro e w9 ⟨rfl, rfl⟩
          have fb := pickV_bd of 60 (by omega)
          generalize pickV of 60 = f at fb ⊢
          obtain ⟨fb1, fb2⟩ := fb
          obtain ⟨F, rfl⟩ := Int.eq_ofNat_of_zero_le fb1
          go_wp2_with fail
          refine (pick_any n 25 _ hn.1 hn.2 (by omega) (by omega)).mono ?_
          rintro e w9 ⟨rfl, rfl⟩
          have qb := pickV_bd n 25 (by omega)
          generalize pickV n 25 = q at qb ⊢
          obtain ⟨qb1, qb2⟩ := qb
          obtain ⟨Q, rfl⟩ := Int.eq_ofNat_of_zero_le qb1
          obtain ⟨T, hT⟩ : ∃ T : Nat, T = min (F + Q) 60 := ⟨_, rfl⟩
          have hmin : min ((F : Int) + (Q : Int)) 60 = (T : Int) := by omega
          have t1 : F ≤ T := by omega
          have t2 : T ≤ 60 := by omega
          clear hT
          go_wp2_with fail
          obtain ⟨pc, hpc⟩ : ∃ pc : ByteArray, pc = sB.extract F T := ⟨_, rfl⟩
          rw [← hpc]
          have hpl : pc.data.toList = (S.drop F).take (T - F) := by rw [hpc, ByteArray.data_extract, Array.toList_extract, List.extract_eq_take_drop, HSB.out]
          have hps : pc.size ≤ 60 := by rw [hpc, ByteArray.size_extract]; omega
          have hE : putE (F : Int) = 0 := by unfold putE; rw [if_neg (by omega)]
          have HE := Lib.hid hE
          have HPL := Lib.hid hpl
          clear hpc hE hpl hmin
          refine (put_any B R lb _ (F : Int) pc _ HX.out HI.out.ok HLB.out (by omega)).mono ?_
          rintro e u2 ⟨rfl, hx2, hc2⟩
          rw [HE.out]
          have hp2 := HI.out.put t1 t2 HPL.out
          generalize b1.putN (F : Int) pc.size = pn
          generalize b1.put (F : Int) pc.data.toList = b2 at hx2 hp2
          replace HI := Lib.hid hp2.1
          replace HX := Lib.hid hx2
          replace HB := Lib.hid (HB.out.trans (hc2.below HL.out.apart.1 HL.out.apart.2 HB.out.size))
          replace HLB := Lib.hid (Nat.le_trans HLB.out hc2.size)
          replace HRG := Lib.hid (hp2.2.2.1.trans HRG.out)
          have n1 := HI.out.nx
          have n2 := HI.out.rd
          have n3 := HI.out.ok.rdnx
          rw [Array.length_toList] at n2
          have n4 : b2.rd ≤ (gn.size : Int) := Int.le_of_eq n2
          have n5 : (gn.size : Int) ≤ b2.rd := Int.le_of_eq n2.symm
          have hnb : (b2.nx != (gn.size : Int) + (b2.nx - b2.rd)) = false := by rw [bne_eq_false_iff_eq]; omega
          clear n2 hp2 hx2 hc2
          go_wp2_with fail
          refine (next_any B R lb b2 _ HX.out).mono ?_
          rintro e w9 ⟨rfl, rfl⟩
          go_wp2_with fail
          refine (next_any B R lb b2 _ HX.out).mono ?_
          rintro e w9 ⟨rfl, rfl⟩
          go_wp2_with fail
          refine (len_any B R lb b2 _ HX.out HI.out.ok).mono ?_
          rintro e u3 ⟨rfl, hu3⟩
          have HD := Lib.hid hu3
          clear hu3
          go_wp2_with fail
          exact ⟨⟨i + 1, gn, rfl, by go_num, by omega, ⟨⟨b2, HI.out, by rw [HD.out]; exact HX.out.drew, HRG.out⟩, by rw [HD.out]; exact HB.out.drew, by rw [HD.out]; exact HLB.out, HL.out.apart⟩⟩, by simp [intOf]; omega⟩
        · have HB := Lib.hid HL.out.below
          have HLB := Lib.hid HL.out.lb
          go_wp2_with fail
          refine (pick_any of 60 _ hof.1 hof.2 (by omega) (by omega)).mono ?_
          rintro e w9 ⟨rfl, rfl⟩
          have fb := pickV_bd of 60 (by omega)
          generalize pickV of 60 = f at fb ⊢
          obtain ⟨fb1, fb2⟩ := fb
          obtain ⟨F, rfl⟩ := Int.eq_ofNat_of_zero_le fb1
          go_wp2_with fail
          refine (pick_any n 25 _ hn.1 hn.2 (by omega) (by omega)).mono ?_
          rintro e w9 ⟨rfl, rfl⟩
          have qb := pickV_bd n 25 (by omega)
          generalize pickV n 25 = q at qb ⊢
          obtain ⟨qb1, qb2⟩ := qb
          obtain ⟨Q, rfl⟩ := Int.eq_ofNat_of_zero_le qb1
          obtain ⟨T, hT⟩ : ∃ T : Nat, T = min (F + Q) 60 := ⟨_, rfl⟩
          have hmin : min ((F : Int) + (Q : Int)) 60 = (T : Int) := by omega
          have t1 : F ≤ T := by omega
          have t2 : T ≤ 60 := by omega
          clear hT
          go_wp2_with fail
          obtain ⟨pc, hpc⟩ : ∃ pc : ByteArray, pc = sB.extract F T := ⟨_, rfl⟩
          rw [← hpc]
          have hpl : pc.data.toList = (S.drop F).take (T - F) := by rw [hpc, ByteArray.data_extract, Array.toList_extract, List.extract_eq_take_drop, HSB.out]
          have hps : pc.size ≤ 60 := by rw [hpc, ByteArray.size_extract]; omega
          have hE : putE (F : Int) = 0 := by unfold putE; rw [if_neg (by omega)]
          have HE := Lib.hid hE
          have HPL := Lib.hid hpl
          clear hpc hE hpl hmin
          refine (put_any B R lb _ (F : Int) pc _ HX.out HI.out.ok HLB.out (by omega)).mono ?_
          rintro e u2 ⟨rfl, hx2, hc2⟩
          rw [HE.out]
          have hp2 := HI.out.put t1 t2 HPL.out
          generalize b.putN (F : Int) pc.size = pn
          generalize b.put (F : Int) pc.data.toList = b2 at hx2 hp2
          replace HI := Lib.hid hp2.1
          replace HX := Lib.hid hx2
          replace HB := Lib.hid (HB.out.trans (hc2.below HL.out.apart.1 HL.out.apart.2 HB.out.size))
          replace HLB := Lib.hid (Nat.le_trans HLB.out hc2.size)
          replace HRG := Lib.hid (hp2.2.2.1.trans HRG.out)
          have n1 := HI.out.nx
          have n2 := HI.out.rd
          have n3 := HI.out.ok.rdnx
          rw [Array.length_toList] at n2
          have n4 : b2.rd ≤ (got.size : Int) := Int.le_of_eq n2
          have n5 : (got.size : Int) ≤ b2.rd := Int.le_of_eq n2.symm
          have hnb : (b2.nx != (got.size : Int) + (b2.nx - b2.rd)) = false := by rw [bne_eq_false_iff_eq]; omega
          clear n2 hp2 hx2 hc2
          go_wp2_with fail
          refine (next_any B R lb b2 _ HX.out).mono ?_
          rintro e w9 ⟨rfl, rfl⟩
          go_wp2_with fail
          refine (next_any B R lb b2 _ HX.out).mono ?_
          rintro e w9 ⟨rfl, rfl⟩
          go_wp2_with fail
          refine (len_any B R lb b2 _ HX.out HI.out.ok).mono ?_
          rintro e u3 ⟨rfl, hu3⟩
          have HD := Lib.hid hu3
          clear hu3
          go_wp2_with fail
          exact ⟨⟨i + 1, got, rfl, by go_num, by omega, ⟨⟨b2, HI.out, by rw [HD.out]; exact HX.out.drew, HRG.out⟩, by rw [HD.out]; exact HB.out.drew, by rw [HD.out]; exact HLB.out, HL.out.apart⟩⟩, by simp [intOf]; omega⟩
      · go_wp2_with fail
        refine (next_any B R lb b _ HX.out).mono ?_
        rintro e w9 ⟨rfl, rfl⟩
        go_wp2_with fail
        have hrr := HI.out.read (k := 100) (by have := HI.out.nx; have := HI.out.ok.rd0; omega)
        obtain ⟨q1, q2, q3, q4⟩ := HI.out.take 100
        refine (take_any B R lb b 100 _ HX.out HI.out.ok).mono ?_
        rintro e u1 ⟨rfl, hx1, hc1⟩
        obtain ⟨tB, htB⟩ : ∃ tB : ByteArray, tB = ⟨(b.takeS 100).toArray⟩ := ⟨_, rfl⟩
        rw [← htB]
        have htl : tB.data.toList = b.takeS 100 := by rw [htB]
        have hts : tB.size = (b.takeS 100).length := by rw [htB]; show (b.takeS 100).toArray.size = _; simp
        have hts2 : tB.size ≤ 60 := by have := HI.out.nx; have := HI.out.rd; omega
        rw [← htl, ← app_list] at q1 hrr
        obtain ⟨hr1, hr2⟩ := hrr
        rw [Array.length_toList] at hr1
        have n1 := HI.out.nx
        have n0 := HI.out.ok.rd0
        have n2 := HI.out.ok.rdnx
        have hgot : got ++ tB = sB.extract 0 b.nx.toNat := by
          apply ByteArray.ext
          apply Array.toList_inj.1
          rw [ByteArray.data_extract, Array.toList_extract, List.extract_eq_take_drop, HSB.out, q1.got, Array.length_toList, List.drop_zero]
          congr 1
          show (got ++ tB).data.size = _
          omega
        have hz1 : b.nx ≤ ((got ++ tB).size : Int) := by show b.nx ≤ ((got ++ tB).data.size : Int); omega
        have hz2 : ((got ++ tB).size : Int) ≤ b.nx := by show ((got ++ tB).data.size : Int) ≤ b.nx; omega
        have hm : min b.nx 60 = b.nx := by omega
        have f1 : ((got.size : Int) + (tB.size : Int) == b.nx) = true := by rw [beq_iff_eq]; rw [ByteArray.size_append] at hz1 hz2; omega
        have f2 : ((got ++ tB).toList == (sB.extract 0 (min b.nx 60).toNat).toList) = true := by rw [hm, ← hgot]; exact beq_self_eq_true _
        have HOK := Lib.hid q1.ok
        have HX1 := Lib.hid hx1
        have HR2 := Lib.hid hr2
        have hb1 : Below w.heap.size w u1 := HL.out.below.trans ((Chg2.of1 hc1).below HL.out.apart.1 HL.out.apart.2 HL.out.below.size)
        have HB := Lib.hid hb1
        have nn : 0 ≤ b.nx := by omega
        clear htB htl hts q1 q2 q3 q4 hx1 hc1 hr1 hr2 hgot hb1 hm hz1 hz2
        go_wp2_with fail
        refine (len_any B R lb (b.take 100) _ HX1.out HOK.out).mono ?_
        rintro e u3 ⟨rfl, hu3⟩
        rw [HR2.out]
        have HB3 := Lib.hid (show Below w.heap.size w u3 by rw [hu3]; exact HB.out.drew)
        clear hu3
        go_wp2_with fail
        go_ret
        exact ⟨rfl, HB3.out⟩
    · go_wp2_with fail
      refine (next_any B R lb b _ HX.out).mono ?_
      rintro e w9 ⟨rfl, rfl⟩
      go_wp2_with fail
      have hrr := HI.out.read (k := 100) (by have := HI.out.nx; have := HI.out.ok.rd0; omega)
      obtain ⟨q1, q2, q3, q4⟩ := HI.out.take 100
      refine (take_any B R lb b 100 _ HX.out HI.out.ok).mono ?_
      rintro e u1 ⟨rfl, hx1, hc1⟩
      obtain ⟨tB, htB⟩ : ∃ tB : ByteArray, tB = ⟨(b.takeS 100).toArray⟩ := ⟨_, rfl⟩
      rw [← htB]
      have htl : tB.data.toList = b.takeS 100 := by rw [htB]
      have hts : tB.size = (b.takeS 100).length := by rw [htB]; show (b.takeS 100).toArray.size = _; simp
      have hts2 : tB.size ≤ 60 := by have := HI.out.nx; have := HI.out.rd; omega
      rw [← htl, ← app_list] at q1 hrr
      obtain ⟨hr1, hr2⟩ := hrr
      rw [Array.length_toList] at hr1
      have n1 := HI.out.nx
      have n0 := HI.out.ok.rd0
      have n2 := HI.out.ok.rdnx
      have hgot : got ++ tB = sB.extract 0 b.nx.toNat := by
        apply ByteArray.ext
        apply Array.toList_inj.1
        rw [ByteArray.data_extract, Array.toList_extract, List.extract_eq_take_drop, HSB.out, q1.got, Array.length_toList, List.drop_zero]
        congr 1
        show (got ++ tB).data.size = _
        omega
      have hz1 : b.nx ≤ ((got ++ tB).size : Int) := by show b.nx ≤ ((got ++ tB).data.size : Int); omega
      have hz2 : ((got ++ tB).size : Int) ≤ b.nx := by show ((got ++ tB).data.size : Int) ≤ b.nx; omega
      have hm : min b.nx 60 = b.nx := by omega
      have f1 : ((got.size : Int) + (tB.size : Int) == b.nx) = true := by rw [beq_iff_eq]; rw [ByteArray.size_append] at hz1 hz2; omega
      have f2 : ((got ++ tB).toList == (sB.extract 0 (min b.nx 60).toNat).toList) = true := by rw [hm, ← hgot]; exact beq_self_eq_true _
      have HOK := Lib.hid q1.ok
      have HX1 := Lib.hid hx1
      have HR2 := Lib.hid hr2
      have hb1 : Below w.heap.size w u1 := HL.out.below.trans ((Chg2.of1 hc1).below HL.out.apart.1 HL.out.apart.2 HL.out.below.size)
      have HB := Lib.hid hb1
      have nn : 0 ≤ b.nx := by omega
      clear htB htl hts q1 q2 q3 q4 hx1 hc1 hr1 hr2 hgot hb1 hm hz1 hz2
      go_wp2_with fail
      refine (len_any B R lb (b.take 100) _ HX1.out HOK.out).mono ?_
      rintro e u3 ⟨rfl, hu3⟩
      rw [HR2.out]
      have HB3 := Lib.hid (show Below w.heap.size w u3 by rw [hu3]; exact HB.out.drew)
      clear hu3
      go_wp2_with fail
      go_ret
      exact ⟨rfl, HB3.out⟩
end Go.Proofs.Ytfeppkgcimgkeaa
