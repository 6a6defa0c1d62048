/- reach of the law on states. -/
import Derived.Test.YtclkcmidhhfdmaaGreatDoorUb10
import Derived.Test.YtclkcmidhhfdmaaGreatDoorUb22
namespace Go.Proofs.YtclkcmidhhfdmaaGreatDoor
open Go.RowKit Go.Shelf
def rStep (n : Nat) (a b best e : Int) : Int := match stT a e with | some s => if s ≠ a then min best (1 + reachV n s b) else best | none => best
theorem reachV_succ (n : Nat) (a b : Int) : reachV (n + 1) a b = if a = b then 0 else evs.foldl (rStep n a b) 9 := rfl
theorem stT_st {a e s : Int} (h : stT a e = some s) : 0 ≤ s ∧ s ≤ 9 := stT_bd h
theorem reachV_bd : ∀ (n : Nat) (a b : Int), 0 ≤ reachV n a b ∧ reachV n a b ≤ 9 := by
  intro n
  induction n with
  | zero => intro a b; unfold reachV; split <;> decide
  | succ n ih =>
    intro a b
    rw [reachV_succ]
    split
    · decide
    · have key : ∀ (l : List Int) (m : Int), 0 ≤ m ∧ m ≤ 9 → 0 ≤ l.foldl (rStep n a b) m ∧ l.foldl (rStep n a b) m ≤ 9 := by
        intro l
        induction l with
        | nil => exact fun m h => h
        | cons e l il =>
          intro m h
          refine il _ ?_
          unfold rStep
          split
          · rename_i s _
            have := ih s b
            split <;> omega
          · exact h
      exact key _ _ (by decide)
theorem evs_take (k : Nat) (hk : k < 9) : evs.take (k + 1) = evs.take k ++ [((k : Int) + 1)] := by
  have : k = 0 ∨ k = 1 ∨ k = 2 ∨ k = 3 ∨ k = 4 ∨ k = 5 ∨ k = 6 ∨ k = 7 ∨ k = 8 := by omega
  rcases this with rfl | rfl | rfl | rfl | rfl | rfl | rfl | rfl | rfl <;> rfl
theorem fold_step (n : Nat) (a b : Int) (k : Nat) (hk : k < 9) : (evs.take (k + 1)).foldl (rStep n a b) 9 = rStep n a b ((evs.take k).foldl (rStep n a b) 9) ((k : Int) + 1) := by rw [evs_take k hk, List.foldl_append]; rfl
theorem fold_bd (n : Nat) (a b : Int) (l : List Int) : ∀ m : Int, 0 ≤ m ∧ m ≤ 9 → 0 ≤ l.foldl (rStep n a b) m ∧ l.foldl (rStep n a b) m ≤ 9 := by
  induction l with
  | nil => exact fun m h => h
  | cons e l il =>
    intro m h
    refine il _ ?_
    unfold rStep
    split
    · rename_i s _
      have := reachV_bd n s b
      split <;> omega
    · exact h
set_option maxHeartbeats 8000000 in
theorem treach_any : ∀ (n : Nat) (a b : Int) (w : World), n ≤ 3 → (0 ≤ a ∧ a ≤ 9) → (0 ≤ b ∧ b ≤ 9) → Triples w →
    Calls Tryz.prog 41 #[.int .i64 a, .int .i64 b, .int .i64 n] w fun e w' => e = .returned (.int .i64 (reachV n a b)) ∧ Below w.heap.size w w' := by
  intro n
  induction n with
  | zero =>
    intro a b w _ ha hb hT
    by_cases h : a = b
    · subst h
      have HR := Lib.hid (show reachV 0 a a = 0 from if_pos rfl)
      rw [HR.out]
      go_enter Tryz.func41, Tryz.ntmps41
      go_wp2_with fail
      go_ret
      exact ⟨rfl, Below.refl _ _⟩
    · have HR := Lib.hid (show reachV 0 a b = 9 from if_neg h)
      rw [HR.out]
      have h1 : (a == b) = false := beq_eq_false_iff_ne.2 h
      go_enter Tryz.func41, Tryz.ntmps41
      go_wp2_with fail
      go_ret
      exact ⟨rfl, Below.refl _ _⟩
  | succ n ih =>
    intro a b w hn ha hb hT
    by_cases h : a = b
    · subst h
      have HR := Lib.hid (show reachV (n + 1) a a = 0 from if_pos rfl)
      rw [HR.out]
      go_enter Tryz.func41, Tryz.ntmps41
      go_wp2_with fail
      go_ret
      exact ⟨rfl, Below.refl _ _⟩
    · have HR := Lib.hid (show reachV (n + 1) a b = (evs.take 9).foldl (rStep n a b) 9 from (reachV_succ n a b).trans (if_neg h))
      have HE := Lib.hid h
      have HT := Lib.hid hT
      have IH := Lib.hid ih
      have h1 : (a == b) = false := beq_eq_false_iff_ne.2 h
      have h2 : (((n + 1 : Nat) : Int) == 0) = false := beq_eq_false_iff_ne.2 (by omega)
      rw [HR.out]
      clear h hT ih HR
      go_enter Tryz.func41, Tryz.ntmps41
      go_wp2_with fail
      go_loopg [7, 8] 9 (fun g bv ev wr => ∃ (k : Nat), g + k = 9 ∧ ev = .int .i64 ((k : Int) + 1) ∧ bv = .int .i64 ((evs.take k).foldl (rStep n a b) 9) ∧ Below w.heap.size w wr)
      case atStart => exact ⟨0, rfl, rfl, rfl, Below.refl _ _⟩
      case round =>
        obtain ⟨k, hgk, rfl, rfl, hb1⟩ := hrel
        have HB := Lib.hid hb1
        clear hb1
        by_cases hk : k < 9
        · have hk9 : (k : Int) + 1 ≤ 9 := by omega
          have HF := Lib.hid (fold_step n a b k hk)
          have HS := Lib.hid (stT_eq a ((k : Int) + 1) ha (by omega))
          have hbd := fold_bd n a b (evs.take k) 9 (by decide)
          generalize (evs.take k).foldl (rStep n a b) 9 = m at HF hbd ⊢
          go_wp2_with fail
          refine (step_any a ((k : Int) + 1) _ (HT.out.below HB.out)).mono ?_
          rintro e w2 ⟨rfl, hb2⟩
          replace HB := Lib.hid (HB.out.trans (hb2.mono HB.out.size))
          clear hb2
          cases hx : stT a ((k : Int) + 1) with
          | none =>
            have HV : stV a ((k : Int) + 1) = -1 := by rw [HS.out, hx]
            have e1 : stN a ((k : Int) + 1) = 0 := by unfold stN; rw [if_pos HV]
            have e2 : stE a ((k : Int) + 1) = 170 := by unfold stE; rw [if_pos HV]
            rw [e1, e2]
            have HN := Lib.hid (show rStep n a b m ((k : Int) + 1) = m by unfold rStep; rw [hx])
            clear HV e1 e2 hx
            go_wp2_with fail
            go_roundg (gk - 1)
            case measure => omega
            case rel => exact ⟨k + 1, by omega, by first | rfl | go_num | (have e : wrap64 ((k : Int) + 1 + 1) = ((k + 1 : Nat) : Int) + 1 := (by unfold wrap64; omega); rw [e]), by rw [HF.out, HN.out], HB.out⟩
          | some s =>
            have hs := stT_bd hx
            have HV : stV a ((k : Int) + 1) = s := by rw [HS.out, hx]
            have e1 : stN a ((k : Int) + 1) = s := by unfold stN; rw [HV, if_neg (by omega)]
            have e2 : stE a ((k : Int) + 1) = 0 := by unfold stE; rw [HV, if_neg (by omega)]
            rw [e1, e2]
            by_cases hsa : s = a
            · have HN := Lib.hid (show rStep n a b m ((k : Int) + 1) = m by unfold rStep; rw [hx]; exact if_neg (fun hh => hh hsa))
              have h3 : (s != a) = false := by rw [hsa]; simp
              clear HV e1 e2 hx hsa
              go_wp2_with fail
              go_roundg (gk - 1)
              case measure => omega
              case rel => exact ⟨k + 1, by omega, by first | rfl | go_num | (have e : wrap64 ((k : Int) + 1 + 1) = ((k + 1 : Nat) : Int) + 1 := (by unfold wrap64; omega); rw [e]), by rw [HF.out, HN.out], HB.out⟩
            · have HN := Lib.hid (show rStep n a b m ((k : Int) + 1) = min m (1 + reachV n s b) by unfold rStep; rw [hx]; exact if_pos hsa)
              have h3 : (s != a) = true := bne_iff_ne.2 hsa
              have hrb := reachV_bd n s b
              have hn1 : ((n + 1 : Nat) : Int) - 1 = (n : Int) := by omega
              have HC := Lib.hid (IH.out s b w2 (by omega) hs hb (HT.out.below HB.out))
              clear HV e1 e2 hx hsa IH
              generalize reachV n s b = q at HN hrb HC
              go_wp2_with fail
              refine HC.out.mono ?_
              rintro e w3 ⟨rfl, hb3⟩
              replace HB := Lib.hid (HB.out.trans (hb3.mono HB.out.size))
              clear hb3 HC
              go_wp2_with fail
              go_roundg (gk - 1)
              case measure => omega
              case rel => exact ⟨k + 1, by omega, by first | rfl | go_num | (have e : wrap64 ((k : Int) + 1 + 1) = ((k + 1 : Nat) : Int) + 1 := (by unfold wrap64; omega); rw [e]), by rw [HF.out, HN.out], HB.out⟩
        · have hk0 : k = 9 := by omega
          subst hk0
          go_wp2_with fail
          go_ret
          exact ⟨rfl, HB.out⟩
end Go.Proofs.YtclkcmidhhfdmaaGreatDoor
