/- scoreboard.without. -/
import Derived.Test.YtncjeleabpodaaaScMem
import Derived.Test.YtncjeleabpodaaaWi
import Derived.Deep.LoopGhost
import Derived.Deep.QuietTactic
import Derived.BigQuiet
import Derived.Deep.CutBlock
import Derived.Deep.DeepCutAuto
namespace Go.Proofs.Ytncjeleabpodaaa
open Go.RowKit Go.Shelf
/-- The slice v, which came in, reads as L. -/
def WB (w : World) (n₀ : Nat) (v : Value) (L : List Sp) : Prop := ∃ a cap, v = .slice a L.length cap ∧ SpAt w n₀ a L ∧ L.length ≤ cap
theorem WB.tail {w : World} {n₀ : Nat} {y : Sp} {t : List Sp} {b o n cap : Nat} (h : WB w n₀ (.slice (some ⟨b, o, none⟩) n cap) (y :: t)) (_hc1 : cap ≠ 1) : WB w n₀ (.slice (some ⟨b, o + 2, none⟩) t.length (cap - 1)) t := by
  obtain ⟨a, cap', hv, hs, hc⟩ := h
  cases hv
  obtain ⟨b', o', e, hb, hcs⟩ := hs.cells (by simp)
  cases e
  have hs2 := hs.small
  rw [List.length_cons] at hc hs2
  refine ⟨_, _, rfl, ⟨by omega, fun hl => ⟨b, o + 2, rfl, hb, fun i hi => ?_⟩⟩, by omega⟩
  have := hcs (i + 1) (by simpa using hi)
  rw [show o + (i + 1) * 2 = o + 2 + i * 2 by omega] at this
  simpa using this
theorem upL_gt {e a : Int} {l : List Sp} (h : canonF e l = true) : ∀ z ∈ upL a l, a < z.2 := by
  induction l generalizing e with
  | nil => intro z hz; cases hz
  | cons x l ih =>
    rw [canonF_cons] at h
    rw [upL_cons]
    split
    · exact ih h.2
    · intro z hz
      rcases List.mem_cons.1 hz with rfl | hz
      · omega
      · have h1 := canonF_ok h.2 z hz
        unfold okS at h1
        have := canonF_gt h.2 (show Mem z.1 l from ⟨z, hz, Int.le_refl _, h1.2.1⟩)
        omega
/-- What is left of b serves as well as all of it. -/
structure RestB (LA LB : List Sp) (k : Nat) (bl : List Sp) : Prop where
  canon : ∃ e, canonF e bl = true
  rest : ∀ a t : Int, (∀ y ∈ LA.take k, y.1 ≤ a) → gapsF t a bl = gapsF t a LB
theorem RestB.start {LA LB : List Sp} {e : Int} (h : canonF e LB = true) : RestB LA LB 0 LB := ⟨⟨e, h⟩, fun _ _ _ => rfl⟩
theorem canonF_up {e : Int} {l : List Sp} (h : canonF e l = true) (a : Int) : ∃ e', canonF e' (upL a l) = true := by
  induction l generalizing e with
  | nil => exact ⟨e, h⟩
  | cons x l ih =>
    rw [upL_cons]
    split
    · exact ih (canonF_cons.1 h).2
    · exact ⟨e, h⟩
theorem RestB.step {LA LB : List Sp} {ea : Int} {k : Nat} {bl : List Sp} (h : RestB LA LB k bl) (ha : canonF ea LA = true) (hk : k < LA.length) : RestB LA LB (k + 1) (upL LA[k].1 bl) ∧ gapsF LA[k].2 LA[k].1 (upL LA[k].1 bl) = gapsF LA[k].2 LA[k].1 LB := by
  have hsort : ∀ (L : List Sp) (e : Int), canonF e L = true → L.Pairwise (fun x y => x.1 ≤ y.1) := by
    intro L
    induction L with
    | nil => intro _ _; exact List.Pairwise.nil
    | cons x l ih =>
      intro e hc
      rw [canonF_cons] at hc
      refine List.Pairwise.cons (fun y hy => ?_) (ih _ hc.2)
      have := canonF_gt hc.2 (show Mem y.1 l from ⟨y, hy, Int.le_refl _, (canonF_ok hc.2 y hy).2.1⟩)
      omega
  have hp := hsort LA ea ha
  obtain ⟨e, he⟩ := h.canon
  have key : ∀ a t : Int, LA[k].1 ≤ a → gapsF t a (upL LA[k].1 bl) = gapsF t a bl := fun a t hle => by rw [← gapsF_up (upL LA[k].1 bl), upL_upL hle, gapsF_up]
  have hle : ∀ y ∈ LA.take k, y.1 ≤ LA[k].1 := fun y hy => by
    obtain ⟨i, hi, rfl⟩ := List.mem_iff_getElem.1 hy
    rw [List.length_take] at hi
    rw [List.getElem_take]
    exact List.pairwise_iff_getElem.1 hp i k (by omega) hk (by omega)
  refine ⟨⟨canonF_up he _, fun a t hall => ?_⟩, ?_⟩
  · have hx := hall LA[k] (by rw [List.take_succ_eq_append_getElem hk]; exact List.mem_append_right _ (List.mem_singleton_self _))
    rw [key a t hx]
    exact h.rest a t (fun y hy => Int.le_trans (hle y hy) hx)
  · rw [key _ _ (Int.le_refl _)]
    exact h.rest _ _ hle
set_option maxRecDepth 100000 in
set_option maxHeartbeats 4000000 in
theorem without_any (w : World) (n₀ : Nat) (aa ab : Option Addr) (ca cb : Nat) (LA LB : List Sp) (ea eb : Int) (hA : SpAt w n₀ aa LA) (hBs : SpAt w n₀ ab LB) (hcb : LB.length ≤ cb) (hn : n₀ ≤ w.heap.size) (hca : canonF ea LA = true) (hcbn : canonF eb LB = true) :
    Calls Try.prog 60 #[.slice aa LA.length ca, .slice ab LB.length cb] w fun e w' => ∃ v, e = .returned v ∧ OwnSp w' w.heap.size v (wthF LA LB) ∧ Below w.heap.size w w' := by
  have HSA := Lib.hid hA
  have HSB := Lib.hid hBs
  have HCA := Lib.hid hca
  have HCB := Lib.hid hcbn
  have HCT := Lib.hid (fun k => canonF_take2 hca k)
  have hsma := hA.small
  have hsmb := hBs.small
  clear hA hBs hca hcbn
  go_enter Try.func60, Try.ntmps60
  go_wp2_with fail
  go_loopg [1, 5, 13] LA.length (fun g bv ov kv wr => ∃ (k : Nat) (bl : List Sp), kv = .int .i64 (k : Int) ∧ g + k = LA.length ∧ WB w n₀ bv bl ∧ RestB LA LB k bl ∧ OwnSp wr w.heap.size ov (wthF (LA.take k) LB) ∧ Below w.heap.size w wr)
  case atStart => exact ⟨0, LB, rfl, rfl, ⟨_, _, rfl, HSB.out, hcb⟩, RestB.start HCB.out, OwnSp.nil _ _, Below.refl _ _⟩
  case round =>
    obtain ⟨k, bl, rfl, hg, hbv, hrest, hO, hB⟩ := hrel
    have HV := Lib.hid hbv
    have HR := Lib.hid hrest
    have HO := Lib.hid hO
    have HB := Lib.hid hB
    have hws := hB.size
    clear hbv hrest hO hB
    by_cases hk : k < LA.length
    · obtain ⟨sb, so, rfl, hsb, hcs⟩ := HSA.out.cells (by omega)
      obtain ⟨c0, c1⟩ := hcs k hk
      have d0 := (HB.out.cell (p := ⟨sb, _, none⟩) (by show sb < w.heap.size; omega)).trans c0
      have d1 := (HB.out.cell (p := ⟨sb, _, none⟩) (by show sb < w.heap.size; omega)).trans c1
      clear c0 c1 hcs
      have HKT := Lib.hid (show wthF (LA.take (k + 1)) LB = wthF (LA.take k) LB ++ gapsF LA[k].2 LA[k].1 LB by rw [List.take_succ_eq_append_getElem hk, wthF_snoc])
      have HRS := Lib.hid (HR.out.step HCA.out hk)
      have HXO := Lib.hid (canonF_ok HCA.out LA[k] (List.getElem_mem hk))
      have hki : (k : Int) < (LA.length : Int) := by omega
      generalize LA[k] = x at d0 d1 HKT HRS HXO
      obtain ⟨x1, x2⟩ := x
      dsimp only at d0 d1 HKT HRS
      go_upto_block 2 with fail
      have hwi := WI.new HO.out HB.out hws x1 x2
      clear d0 d1
      obtain ⟨X, hX⟩ : ∃ X, X = wr.heap.size := ⟨_, rfl⟩
      have hXw : w.heap.size ≤ X := by omega
      rw [← hX] at hwi ⊢
      generalize wr.alloc (.cells #[.int .i64 x1, .int .i64 x2] 51) = W1 at hwi ⊢
      have HWI := Lib.hid hwi
      clear hX hwi HO HB hws wr
      go_cut [1] (fun bv wx => WB w n₀ bv (upL x1 bl) ∧ WI w.heap.size X x1 x2 w u5 (wthF (LA.take k) LB) wx)
      case first =>
        go_wp2_with fail
        go_loopg [1] bl.length (fun g bv wr => ∃ (b2 : List Sp), g = b2.length ∧ upL x1 b2 = upL x1 bl ∧ WB w n₀ bv b2 ∧ WI w.heap.size X x1 x2 w u5 (wthF (LA.take k) LB) wr)
        case atStart => exact ⟨bl, rfl, rfl, HV.out, HWI.out⟩
        case round =>
          clear HV HWI
          obtain ⟨b2, hgl, hup, hbv, hwi⟩ := hrel
          have HV := Lib.hid hbv
          have HUP := Lib.hid hup
          have HWI := Lib.hid hwi
          have HGL := Lib.hid hgl
          obtain ⟨e0, e1⟩ := hwi.cells
          clear hbv hup hwi hgl
          cases b2 with
          | nil =>
            obtain ⟨ab, cb, rfl, -, -⟩ := HV.out
            go_wp2_with fail
            go_quiet (fail)
            go_wp2_with fail
            go_meet
            case rel => exact ⟨by rw [← HUP.out]; exact HV.out, HWI.out.drewN nq⟩
          | cons y t =>
            obtain ⟨ab, cb, rfl, hsp, hcap⟩ := HV.out
            obtain ⟨bb, bo, rfl, hbb, hbc⟩ := hsp.cells (by simp)
            obtain ⟨p0, p1⟩ := hbc 0 (by simp)
            simp only [Nat.zero_mul, Nat.add_zero, List.getElem_cons_zero] at p0 p1
            have q0 := (HWI.out.below.cell (p := ⟨bb, _, none⟩) (by show bb < w.heap.size; omega)).trans p0
            have q1 := (HWI.out.below.cell (p := ⟨bb, _, none⟩) (by show bb < w.heap.size; omega)).trans p1
            clear p0 p1 hbc hsp
            obtain ⟨y1, y2⟩ := y
            dsimp only at q0 q1
            have hl1 : ((y1, y2) :: t).length = t.length + 1 := rfl
            have HV2 := Lib.hid (WB.tail HV.out)
            rw [hl1] at hcap ⊢
            clear hl1
            by_cases hy : y2 ≤ x1
            · go_wp2_with fail
              go_quiet (fail)
              by_cases hc1 : cb = 1
              · subst hc1
                go_wp2_with fail
                obtain rfl : t = [] := List.eq_nil_of_length_eq_zero (by omega)
                go_roundg 0
                case measure => have := HGL.out; simp at this; omega
                case rel => exact ⟨[], rfl, by rw [← HUP.out, upL_cons, if_pos (by exact hy)], ⟨_, _, rfl, ⟨by simp, fun h => absurd h (by simp)⟩, by simp⟩, HWI.out.drewN nq⟩
              · go_wp2_with fail
                go_roundg t.length
                case measure => have := HGL.out; rw [List.length_cons] at this; omega
                case rel => exact ⟨t, rfl, by rw [← HUP.out, upL_cons, if_pos (by exact hy)], HV2.out hc1, HWI.out.drewN nq⟩
            · go_wp2_with fail
              go_quiet (fail)
              go_wp2_with fail
              go_meet
              case rel => exact ⟨by rw [← HUP.out, upL_cons, if_neg (by show ¬ y2 ≤ x1; omega)]; exact HV.out, HWI.out.drewN nq⟩
      case rest =>
        clear HWI
        obtain ⟨hbv, hwi⟩ := hcut
        have HWI := Lib.hid hwi
        obtain ⟨e0, e1⟩ := hwi.cells
        have HUG := Lib.hid (fun (e : Int) (h : canonF e bl = true) => upL_gt (a := x1) h)
        obtain ⟨ebl, hebl⟩ := HR.out.canon
        have HGT := Lib.hid (HUG.out ebl hebl)
        clear HUG hebl
        generalize upL x1 bl = b1 at hbv HRS HGT
        have HV := Lib.hid hbv
        obtain ⟨ab, cb, rfl, hsp, hcap⟩ := hbv
        have HSP := Lib.hid hsp
        have hb1 := hsp.small
        clear hwi hsp
        have HTOT := Lib.hid (show wthF (LA.take k) LB ++ gapsF x2 x1 b1 = wthF (LA.take (k + 1)) LB by rw [HKT.out, HRS.out.2])
        have HLEN := Lib.hid (canonF_len (wthF_spec (HCT.out (k + 1)) HCB.out).1)
        obtain ⟨TOT, hTOT⟩ : ∃ TOT, TOT = wthF (LA.take (k + 1)) LB := ⟨_, rfl⟩
        have HTOTE := Lib.hid hTOT.symm
        rw [← hTOT] at HTOT HLEN
        clear hTOT HKT
        generalize wthF (LA.take k) LB = out0 at HWI HTOT
        go_upto_block 4 with fail
        go_cut [5, 8] (fun ov av wx => ∃ out at', av = .int .i64 at' ∧ WI w.heap.size X x1 x2 w ov out wx ∧ out ++ one at' x2 = TOT)
        case first =>
          go_wp2_with fail
          go_loopg [5, 8, 35] b1.length (fun g ov av iv wr => ∃ (i : Nat) (out : List Sp) (at' : Int), iv = .int .i64 (i : Int) ∧ av = .int .i64 at' ∧ g + i = b1.length ∧ WI w.heap.size X x1 x2 w ov out wr ∧ out ++ gapsF x2 at' (b1.drop i) = TOT ∧ (∃ e, canonF e (b1.drop i) = true) ∧ ∀ z ∈ b1.drop i, at' < z.2)
          case atStart => exact ⟨0, _, x1, rfl, rfl, rfl, HWI.out, HTOT.out, HRS.out.1.canon, HGT.out⟩
          case round =>
            clear HWI e0 e1
            obtain ⟨i, out, at', rfl, rfl, hgi, hwi, htot, hcn, hgt⟩ := hrel
            have HWI := Lib.hid hwi
            have HT := Lib.hid htot
            have HCN := Lib.hid hcn
            have HG2 := Lib.hid hgt
            obtain ⟨e0, e1⟩ := hwi.cells
            have hws := hwi.below.size
            clear hwi htot hcn hgt
            by_cases hi : i < b1.length
            · obtain ⟨bb, bo, rfl, hbb, hbc⟩ := HSP.out.cells (by omega)
              obtain ⟨p0, p1⟩ := hbc i hi
              have q0 := (HWI.out.below.cell (p := ⟨bb, _, none⟩) (by show bb < w.heap.size; omega)).trans p0
              have q1 := (HWI.out.below.cell (p := ⟨bb, _, none⟩) (by show bb < w.heap.size; omega)).trans p1
              clear p0 p1 hbc
              have HDR := Lib.hid (List.drop_eq_getElem_cons hi)
              have hii : (i : Int) < (b1.length : Int) := by omega
              generalize b1[i] = y at q0 q1 HDR
              obtain ⟨y1, y2⟩ := y
              dsimp only at q0 q1
              rw [HDR.out] at HT HCN HG2
              have hyat : at' < y2 := HG2.out _ List.mem_cons_self
              obtain ⟨ey, hey⟩ := HCN.out
              rw [canonF_cons] at hey
              have hyo : y1 < y2 := hey.1.2.2.1
              have HEY := Lib.hid hey.2
              clear hey
              have HT2 := Lib.hid (show out ++ (if x2 ≤ y1 then one at' x2 else one at' y1 ++ gapsF x2 y2 (b1.drop (i + 1))) = TOT by have h := HT.out; rw [show gapsF x2 at' ((y1, y2) :: b1.drop (i + 1)) = if y2 ≤ at' then gapsF x2 at' (b1.drop (i + 1)) else if x2 ≤ y1 then one at' x2 else one at' y1 ++ gapsF x2 y2 (b1.drop (i + 1)) from rfl, if_neg (by omega)] at h; exact h)
              have HG3 := Lib.hid (show ∀ z ∈ b1.drop (i + 1), y2 < z.2 from fun z hz => by have h1 := canonF_ok HEY.out z hz; unfold okS at h1; have := canonF_gt HEY.out (show Mem z.1 (b1.drop (i + 1)) from ⟨z, hz, Int.le_refl _, h1.2.1⟩); omega)
              clear HT HCN HG2 HDR
              have g1 := (HWI.out.alloc hws (.cells #[.int .i64 y1, .int .i64 y2] 51)).x1.1
              by_cases h1 : x2 ≤ y1
              · go_wp2_with fail
                go_meet
                case rel => exact ⟨out, at', rfl, HWI.out.alloc hws _, by have h := HT2.out; rw [if_pos h1] at h; exact h⟩
              · have hol : out.length ≤ 4398046511104 := by have h := HT2.out; have h2 := HLEN.out; rw [← h, List.length_append] at h2; omega
                have HT3 := Lib.hid (show out ++ one at' y1 ++ gapsF x2 y2 (b1.drop (i + 1)) = TOT by have h := HT2.out; rw [if_neg (by omega), ← List.append_assoc] at h; exact h)
                by_cases h2 : at' < y1
                · go_wp2_with (first | (at_builtin; refine wpList_append_span _ rfl _ _ rfl w.heap.size _ _ rfl ((HWI.out.own.alloc _).alloc _) hol (wr.heap.size + 1) (at', y1) rfl (by simp) (by simp) (by simp; omega) ?_))
                  intro v' w' ho hgr hbl
                  have hwi := ((HWI.out.alloc hws (.cells #[.int .i64 y1, .int .i64 y2] 51)).alloc (by simp; omega) (.cells #[.int .i64 at', .int .i64 y1] 51)).app (Nat.le_refl _) ho hgr (by rcases hbl with h | ⟨kk, h, hk⟩; exact .inl h; exact .inr ⟨kk, h, by simp; omega⟩)
                  have HW2 := Lib.hid hwi
                  have y1c : w'.cell? ⟨wr.heap.size, 1, none⟩ = some (.int .i64 y2) := by
                    refine (cell_grown hgr (by
                      show ((wr.alloc (.cells #[.int .i64 y1, .int .i64 y2] 51)).alloc (.cells #[.int .i64 at', .int .i64 y1] 51)).cell? ⟨wr.heap.size, 1, none⟩ = _
                      exact (((At.new (W := wr) (vs := #[.int .i64 y1, .int .i64 y2]) 51 (i := 1) rfl rfl).alloc (.cells #[.int .i64 at', .int .i64 y1] 51))).1) ?_)
                    intro e; have := (HWI.out.own.lt _ e).2; omega
                  clear ho hgr hbl hwi q0 q1 e0 e1 g1
                  go_wp2_with fail
                  go_roundg (gk - 1)
                  case measure => omega
                  case rel => exact ⟨i + 1, _, y2, by go_num, rfl, by omega, HW2.out, by have h := HT3.out; unfold one at h; rw [if_pos h2] at h; exact h, ⟨_, HEY.out⟩, HG3.out⟩
                · have h2' : y1 ≤ at' := by omega
                  go_wp2_with fail
                  go_roundg (gk - 1)
                  case measure => omega
                  case rel => exact ⟨i + 1, _, y2, by go_num, rfl, by omega, HWI.out.alloc hws _, by have h := HT3.out; unfold one at h; rw [if_neg (by omega), List.append_nil] at h; exact h, ⟨_, HEY.out⟩, HG3.out⟩
            · obtain rfl : i = b1.length := by omega
              go_wp2_with fail
              go_meet
              case rel => exact ⟨out, at', rfl, HWI.out, by have h := HT.out; rw [List.drop_length] at h; exact h⟩
        case rest =>
          clear HWI e0 e1 HSP
          obtain ⟨out, at', rfl, hwi, htot⟩ := hcut
          have HWI := Lib.hid hwi
          have HT := Lib.hid htot
          obtain ⟨e0, e1⟩ := hwi.cells
          have hws := hwi.below.size
          clear hwi htot
          have hol : out.length ≤ 4398046511104 := by have h := HT.out; have h2 := HLEN.out; rw [← h, List.length_append] at h2; omega
          by_cases h2 : at' < x2
          · go_wp2_with (first | (at_builtin; refine wpList_append_span _ rfl _ _ rfl w.heap.size _ _ rfl (HWI.out.own.alloc _) hol _ (at', x2) rfl (by simp) (by simp) (by simp; omega) ?_))
            intro v' w' ho hgr hbl
            have hwi := (HWI.out.alloc hws (.cells #[.int .i64 at', .int .i64 x2] 51)).app (Nat.le_refl _) ho hgr (by rcases hbl with h | ⟨kk, h, hk⟩; exact .inl h; exact .inr ⟨kk, h, by simp; omega⟩)
            have HW2 := Lib.hid hwi
            clear ho hgr hbl hwi e0 e1
            go_wp2_with fail
            go_roundg (LA.length - (k + 1))
            case measure => omega
            case rel => exact ⟨k + 1, b1, by go_num, by omega, HV.out, HRS.out.1, by rw [HTOTE.out]; have h := HT.out; unfold one at h; rw [if_pos h2] at h; rw [← h]; exact HW2.out.own, HW2.out.below⟩
          · have h2' : x2 ≤ at' := by omega
            go_wp2_with fail
            go_roundg (LA.length - (k + 1))
            case measure => omega
            case rel => exact ⟨k + 1, b1, by go_num, by omega, HV.out, HRS.out.1, by rw [HTOTE.out]; have h := HT.out; unfold one at h; rw [if_neg (by omega), List.append_nil] at h; rw [← h]; exact HWI.out.own, HWI.out.below⟩
    · obtain rfl : k = LA.length := by omega
      have hO := HO.out
      rw [List.take_length] at hO
      have HO2 := Lib.hid hO
      clear hO
      go_wp2_with fail
      go_ret
      exact ⟨_, rfl, HO2.out, HB.out⟩
end Go.Proofs.Ytncjeleabpodaaa
