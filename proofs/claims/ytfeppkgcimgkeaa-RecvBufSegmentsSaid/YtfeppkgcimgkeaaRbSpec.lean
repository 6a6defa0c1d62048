/- What Put does to the set of received offsets. -/
import Derived.Test.YtfeppkgcimgkeaaRbPlain
namespace Go.Proofs.Ytfeppkgcimgkeaa
/-- Offset i has been received. -/
def Bx.has (b : Bx) (i : Int) : Prop := (0 ≤ i ∧ i < b.nx) ∨ Mem i b.bl
theorem Bx.Ok.nope {b : Bx} (h : b.Ok) : ¬ b.has b.nx := by
  rintro (⟨_, g⟩ | g)
  · omega
  · have := (h.mem _ g).1; omega
theorem canonF_gt {e : Int} {l : List Sp} (h : canonF e l = true) {i : Int} (hi : Mem i l) : e < i := (canonF_mem h hi).1
/-- The piece joins what was received. -/
theorem join_spec {nx : Int} {L : List Sp} (hc : canonB L = true) (hge : ∀ i, Mem i L → nx ≤ i) (h0 : 0 ≤ nx) :
    canonB (joinBl nx L) = true ∧ (∀ i, Mem i (joinBl nx L) → joinNx nx L < i) ∧ nx ≤ joinNx nx L ∧ (∀ i, ((0 ≤ i ∧ i < joinNx nx L) ∨ Mem i (joinBl nx L)) ↔ ((0 ≤ i ∧ i < nx) ∨ Mem i L)) ∧ (∀ i, Mem i (joinBl nx L) → Mem i L) ∧ (joinNx nx L = nx ∨ Mem (joinNx nx L - 1) L) := by
  cases L with
  | nil => exact ⟨rfl, fun i h => (mem_nil h).elim, Int.le_refl _, fun i => Iff.rfl, fun _ h => h, .inl rfl⟩
  | cons x t =>
    have hc' := hc
    unfold canonB at hc
    rw [canonF_cons] at hc
    have hx : nx ≤ x.1 := hge x.1 (mem_cons.2 (.inl ⟨Int.le_refl _, hc.1.2.2.1⟩))
    by_cases e : x.1 = nx
    · have e1 : joinNx nx (x :: t) = x.2 := by show (if x.1 = nx then x.2 else nx) = _; rw [if_pos e]
      have e2 : joinBl nx (x :: t) = t := by show (if x.1 = nx then t else x :: t) = _; rw [if_pos e]
      rw [e1, e2]
      refine ⟨canonF_mono hc.2 (by omega), fun i hi => canonF_gt hc.2 hi, by omega, fun i => ?_, fun i hi => mem_cons.2 (.inr hi), .inr (mem_cons.2 (.inl (by omega)))⟩
      rw [mem_cons]
      constructor
      · rintro (h | h)
        · by_cases g : i < nx
          · exact .inl ⟨h.1, g⟩
          · exact .inr (.inl (by omega))
        · exact .inr (.inr h)
      · rintro (h | h | h)
        · exact .inl (by omega)
        · exact .inl (by omega)
        · exact .inr h
    · have e1 : joinNx nx (x :: t) = nx := by show (if x.1 = nx then x.2 else nx) = _; rw [if_neg e]
      have e2 : joinBl nx (x :: t) = x :: t := by show (if x.1 = nx then t else x :: t) = _; rw [if_neg e]
      rw [e1, e2]
      refine ⟨hc', fun i hi => ?_, Int.le_refl _, fun i => Iff.rfl, fun i h => h, .inl rfl⟩
      rcases mem_cons.1 hi with h | h
      · omega
      · have := canonF_gt hc.2 h; omega
theorem fills_len0 {rg : List UInt8} {off : Int} {s : List UInt8} {gs : List Sp} (h1 : 1 ≤ rg.length) (h : ∀ g ∈ gs, (g.2 - g.1).toNat ≤ rg.length) : (fillsB rg off s gs).length = rg.length := by
  induction gs generalizing rg with
  | nil => rfl
  | cons g gs ih =>
    have e : (fillB rg g.1.toNat (cutB s off g)).length = rg.length := length_fillB _ _ _ h1 (Nat.le_trans (length_cutB _ _ _) (h g (by simp)))
    show (fillsB (fillB rg g.1.toNat (cutB s off g)) off s gs).length = _
    rw [ih (by omega) (fun x hx => by rw [e]; exact h x (by simp [hx])), e]
theorem canonF_mem_sp {e : Int} {L : List Sp} (h : canonF e L = true) {g : Sp} (hg : g ∈ L) : g.1 < g.2 ∧ Mem g.1 L ∧ Mem (g.2 - 1) L := by
  induction L generalizing e with
  | nil => cases hg
  | cons x t ih =>
    rw [canonF_cons] at h
    rcases List.mem_cons.1 hg with rfl | hg
    · exact ⟨h.1.2.2.1, mem_cons.2 (.inl (by omega)), mem_cons.2 (.inl (by omega))⟩
    · obtain ⟨a, b, c⟩ := ih h.2 hg
      exact ⟨a, mem_cons.2 (.inr b), mem_cons.2 (.inr c)⟩
theorem Bx.takes {b : Bx} (ok : b.Ok) {off : Int} {k : Nat} (h0 : 0 ≤ off) (hlt : b.lo off < b.hi off k) : takesB b.bl (b.lo off, b.hi off k) = true := by
  refine takesB_iff.2 ⟨ok.canon, ?_⟩
  have := ok.small
  unfold Bx.lo Bx.hi at *
  dsimp only
  omega
theorem Bx.put_spec {b : Bx} (ok : b.Ok) {off : Int} (s : List UInt8) (h0 : 0 ≤ off) (h1 : off ≤ 1099511627776) :
    (b.put off s).Ok ∧ (b.put off s).rd = b.rd ∧ (b.put off s).ring.length = b.ring.length ∧ b.nx ≤ (b.put off s).nx ∧ ∀ i, (b.put off s).has i ↔ b.has i ∨ (off ≤ i ∧ i < off + s.length ∧ i < b.rd + b.ring.length) := by
  have hr := ok.rd0
  have hrn := ok.rdnx
  unfold Bx.put
  rw [if_neg (by omega)]
  by_cases hlt : b.hi off s.length ≤ b.lo off
  · rw [if_pos hlt]
    refine ⟨ok, rfl, rfl, Int.le_refl _, fun i => ⟨.inl, ?_⟩⟩
    rintro (h | h)
    · exact h
    · unfold Bx.lo Bx.hi at hlt
      exact .inl (by omega)
  · rw [if_neg hlt]
    have ht := Bx.takes ok h0 (by omega : b.lo off < b.hi off s.length)
    obtain ⟨ac, am⟩ := addL_spec ht
    obtain ⟨gc, gm⟩ := gapsL_spec ht
    dsimp only at am gm
    have hlo : b.lo off = max off b.nx := rfl
    have hhi : b.hi off s.length = min (off + s.length) (b.rd + b.ring.length) := rfl
    have hge : ∀ i, Mem i (addL b.bl (b.lo off, b.hi off s.length)) → b.nx ≤ i ∧ i < b.rd + b.ring.length := by
      intro i hi
      rcases (am i).1 hi with h | h
      · omega
      · have := ok.mem i h; omega
    obtain ⟨j1, j2, j3, j4, j5, j6⟩ := join_spec ac (fun i hi => (hge i hi).1) (by omega)
    have hlen : (fillsB b.ring off s (gapsL b.bl (b.lo off, b.hi off s.length))).length = b.ring.length := by
      refine fills_len0 ok.one (fun g hg => ?_)
      obtain ⟨g1, g2, g3⟩ := canonF_mem_sp gc hg
      have := (gm _).1 g2
      have := (gm _).1 g3
      omega
    refine ⟨?_, rfl, hlen, j3, fun i => ?_⟩
    · refine ⟨by rw [show (b.putP off s (b.lo off, b.hi off s.length)).ring.length = _ from hlen]; exact ok.one, by rw [show (b.putP off s (b.lo off, b.hi off s.length)).ring.length = _ from hlen]; exact ok.most, hr, Int.le_trans hrn j3, ?_, by rw [show (b.putP off s (b.lo off, b.hi off s.length)).ring.length = _ from hlen]; exact ok.small, j1, fun i hi => ?_⟩
      · rw [show (b.putP off s (b.lo off, b.hi off s.length)).ring.length = _ from hlen]
        show joinNx b.nx _ ≤ b.rd + _
        rcases j6 with e | h
        · rw [e]; exact ok.nxend
        · have := (hge _ h).2; omega
      · rw [show (b.putP off s (b.lo off, b.hi off s.length)).ring.length = _ from hlen]
        exact ⟨j2 i hi, (hge _ (j5 i hi)).2⟩
    · refine (j4 i).trans ?_
      rw [am]
      unfold Bx.has
      constructor
      · rintro (h | h | h)
        · exact .inl (.inl h)
        · exact .inr (by omega)
        · exact .inl (.inr h)
      · rintro ((h | h) | h)
        · exact .inl h
        · exact .inr (.inr h)
        · by_cases g : i < b.nx
          · exact .inl (by omega)
          · exact .inr (.inl (by omega))
end Go.Proofs.Ytfeppkgcimgkeaa
