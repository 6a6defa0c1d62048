/- What the ring holds: Put and Take, in plain terms. -/
import Derived.Test.YtfeppkgcimgkeaaRbSpec
namespace Go.Proofs.Ytfeppkgcimgkeaa
theorem splB_get (rg : List UInt8) (o : Nat) (cs : List UInt8) (h : o + cs.length ≤ rg.length) (p : Nat) : (splB rg o cs)[p]? = if p < o then rg[p]? else if p < o + cs.length then cs[p - o]? else rg[p]? := by
  unfold splB
  have hl : (rg.take o).length = o := by rw [List.length_take]; omega
  by_cases h1 : p < o
  · rw [if_pos h1, List.getElem?_append_left (by omega), List.getElem?_take_of_lt h1]
  · rw [if_neg h1, List.getElem?_append_right (by omega), hl]
    by_cases h2 : p < o + cs.length
    · rw [if_pos h2, List.getElem?_append_left (by omega)]
    · rw [if_neg h2, List.getElem?_append_right (by omega), List.getElem?_drop]
      congr 1
      omega
theorem mod_add {n off j : Nat} (hj : j < n) : (off + j) % n = if j < n - off % n then off % n + j else j - (n - off % n) := by
  have hm : off % n < n := Nat.mod_lt _ (by omega)
  rw [Nat.add_mod, Nat.mod_eq_of_lt hj]
  by_cases h : j < n - off % n
  · rw [if_pos h, Nat.mod_eq_of_lt (by omega)]
  · rw [if_neg h, Nat.mod_eq_sub_mod (by omega), Nat.mod_eq_of_lt (by omega)]
    omega
theorem fillB_in (rg : List UInt8) (off : Nat) (s : List UInt8) (h1 : 1 ≤ rg.length) (hs : s.length ≤ rg.length) {j : Nat} (hj : j < s.length) : (fillB rg off s)[(off + j) % rg.length]? = s[j]? := by
  have hm : off % rg.length < rg.length := Nat.mod_lt _ (by omega)
  have e1 : (splB rg (off % rg.length) (s.take (min s.length (rg.length - off % rg.length)))).length = rg.length := length_splB _ _ _ (by rw [List.length_take]; omega)
  rw [mod_add (by omega)]
  unfold fillB
  rw [splB_get _ _ _ (by rw [e1, List.length_drop]; omega), splB_get _ _ _ (by rw [List.length_take]; omega), List.length_drop, List.length_take]
  by_cases h : j < rg.length - off % rg.length
  · rw [if_pos h, if_neg (by omega), if_neg (by omega), if_neg (by omega), if_pos (by omega), List.getElem?_take_of_lt (by omega)]
    congr 1
    omega
  · rw [if_neg h, if_neg (by omega), if_pos (by omega), List.getElem?_drop]
    congr 1
    omega
theorem fillB_out (rg : List UInt8) (off : Nat) (s : List UInt8) (h1 : 1 ≤ rg.length) (hs : s.length ≤ rg.length) {p : Nat} (hp : p < rg.length) (hno : ∀ j, j < s.length → (off + j) % rg.length ≠ p) : (fillB rg off s)[p]? = rg[p]? := by
  have hm : off % rg.length < rg.length := Nat.mod_lt _ (by omega)
  have e1 : (splB rg (off % rg.length) (s.take (min s.length (rg.length - off % rg.length)))).length = rg.length := length_splB _ _ _ (by rw [List.length_take]; omega)
  have hn2 : ∀ j, j < s.length → (if j < rg.length - off % rg.length then off % rg.length + j else j - (rg.length - off % rg.length)) ≠ p := fun j hj => by rw [← mod_add (by omega)]; exact hno j hj
  unfold fillB
  rw [splB_get _ _ _ (by rw [e1, List.length_drop]; omega), splB_get _ _ _ (by rw [List.length_take]; omega), List.length_drop, List.length_take]
  by_cases c1 : p < s.length - min s.length (rg.length - off % rg.length)
  · exfalso
    have := hn2 (rg.length - off % rg.length + p) (by omega)
    rw [if_neg (by omega)] at this
    omega
  · rw [if_neg (by omega), if_neg (by omega)]
    by_cases c2 : p < off % rg.length
    · rw [if_pos c2]
    · rw [if_neg c2, if_neg]
      intro c3
      have := hn2 (p - off % rg.length) (by omega)
      rw [if_pos (by omega)] at this
      omega
/-- Two offsets of a window stand in the same place only if they are the same. -/
theorem mod_inj {n r i j : Nat} (hi : r ≤ i ∧ i < r + n) (hj : r ≤ j ∧ j < r + n) (h : i % n = j % n) : i = j := by
  rcases Nat.le_total i j with hle | hle
  · have h1 : n ∣ (j - i) := Nat.dvd_of_mod_eq_zero (Nat.sub_mod_eq_zero_of_mod_eq h.symm)
    rcases Nat.eq_zero_or_pos (j - i) with e | e
    · omega
    · have := Nat.le_of_dvd e h1; omega
  · have h1 : n ∣ (i - j) := Nat.dvd_of_mod_eq_zero (Nat.sub_mod_eq_zero_of_mod_eq h)
    rcases Nat.eq_zero_or_pos (i - j) with e | e
    · omega
    · have := Nat.le_of_dvd e h1; omega
/-- What the ring holds behind the filling of gaps that lie in the window and in the piece. -/
theorem fills_get {e : Int} {gs : List Sp} (hc : canonF e gs = true) {off r : Nat} {s : List UInt8} {n : Nat} (h1 : 1 ≤ n) (hin : ∀ i, Mem i gs → (r : Int) ≤ i ∧ i < (r : Int) + n ∧ (off : Int) ≤ i ∧ i < (off : Int) + s.length)
    (rg : List UInt8) (hrg : rg.length = n) {i : Nat} (hi : r ≤ i ∧ i < r + n) :
    (Mem (i : Int) gs → (fillsB rg off s gs)[i % n]? = s[i - off]?) ∧ (¬ Mem (i : Int) gs → (fillsB rg off s gs)[i % n]? = rg[i % n]?) := by
  induction gs generalizing e rg with
  | nil => exact ⟨fun h => (mem_nil h).elim, fun _ => rfl⟩
  | cons g gs ih =>
    have hc' := hc
    rw [canonF_cons] at hc
    obtain ⟨g1, g2, g3⟩ := canonF_mem_sp hc' (List.mem_cons_self (a := g) (l := gs))
    have m1 := hin _ g2
    have m2 := hin _ g3
    have hcl : (cutB s off g).length = (g.2 - g.1).toNat := by
      unfold cutB
      rw [List.length_take, List.length_drop]
      omega
    have hfl : (fillB rg g.1.toNat (cutB s off g)).length = n := by rw [length_fillB _ _ _ (by omega) (by rw [hcl]; omega)]; exact hrg
    obtain ⟨i1, i2⟩ := ih hc.2 (fun x hx => hin x (mem_cons.2 (.inr hx))) (fillB rg g.1.toNat (cutB s off g)) hfl
    have hcut : ∀ j, j < (cutB s off g).length → (cutB s off g)[j]? = s[g.1.toNat - off + j]? := by
      intro j hj
      unfold cutB
      rw [hcl] at hj
      rw [List.getElem?_take_of_lt hj, List.getElem?_drop]
      congr 1
      omega
    have hgin : ∀ (x : Nat), g.1 ≤ (x : Int) ∧ (x : Int) < g.2 → (fillB rg g.1.toNat (cutB s off g))[x % n]? = s[x - off]? := by
      intro x hx
      have := fillB_in rg g.1.toNat (cutB s off g) (by omega) (by rw [hcl]; omega) (j := x - g.1.toNat) (by rw [hcl]; omega)
      rw [show g.1.toNat + (x - g.1.toNat) = x by omega, hrg, hcut _ (by rw [hcl]; omega)] at this
      rw [this]
      congr 1
      omega
    have hgout : ¬ (g.1 ≤ (i : Int) ∧ (i : Int) < g.2) → (fillB rg g.1.toNat (cutB s off g))[i % n]? = rg[i % n]? := by
      intro hx
      refine fillB_out rg g.1.toNat (cutB s off g) (by omega) (by rw [hcl]; omega) (by rw [hrg]; exact Nat.mod_lt _ (by omega)) (fun j hj => ?_)
      rw [hrg, hcl] at *
      intro hm
      have := mod_inj (r := r) (n := n) (i := g.1.toNat + j) (j := i) (by omega) hi hm
      omega
    show (_ → (fillsB (fillB rg g.1.toNat (cutB s off g)) off s gs)[i % n]? = _) ∧ (_ → (fillsB (fillB rg g.1.toNat (cutB s off g)) off s gs)[i % n]? = _)
    refine ⟨fun h => ?_, fun h => ?_⟩
    · by_cases hm : Mem (i : Int) gs
      · exact i1 hm
      · rw [i2 hm]
        rcases mem_cons.1 h with h | h
        · exact hgin i h
        · exact (hm h).elim
    · rw [i2 (fun k => h (mem_cons.2 (.inr k)))]
      exact hgout (fun k => h (mem_cons.2 (.inl k)))
/-- What the ring holds behind Put: new bytes where nothing had been received, the old ones elsewhere. -/
theorem Bx.put_get {b : Bx} (ok : b.Ok) {off : Nat} (s : List UInt8) (h1 : off ≤ 1099511627776) {r : Nat} (hr : b.rd = r) {i : Nat} (hi : r ≤ i ∧ i < r + b.ring.length) :
    (b.has i → (b.put off s).ring[i % b.ring.length]? = b.ring[i % b.ring.length]?) ∧ (¬ b.has i → off ≤ i ∧ i < off + s.length → (b.put off s).ring[i % b.ring.length]? = s[i - off]?) := by
  have hrd := ok.rdnx
  unfold Bx.put
  rw [if_neg (by omega)]
  by_cases hlt : b.hi off s.length ≤ b.lo off
  · rw [if_pos hlt]
    refine ⟨fun _ => rfl, fun hn hp => ?_⟩
    exfalso
    apply hn
    unfold Bx.lo Bx.hi at hlt
    exact .inl (by omega)
  · rw [if_neg hlt]
    have ht := Bx.takes ok (off := off) (by omega) (by omega : b.lo off < b.hi off s.length)
    obtain ⟨gc, gm⟩ := gapsL_spec ht
    dsimp only at gm
    have hlo : b.lo off = max (off : Int) b.nx := rfl
    have hhi : b.hi off s.length = min ((off : Int) + s.length) (b.rd + b.ring.length) := rfl
    have key := fills_get gc (off := off) (r := r) (s := s) (n := b.ring.length) ok.one (fun x hx => by have := (gm x).1 hx; omega) b.ring rfl hi
    show (_ → (fillsB b.ring off s (gapsL b.bl (b.lo off, b.hi off s.length)))[i % b.ring.length]? = _) ∧ (_ → _ → (fillsB b.ring off s (gapsL b.bl (b.lo off, b.hi off s.length)))[i % b.ring.length]? = _)
    refine ⟨fun h => key.2 (fun k => ?_), fun h hp => key.1 ((gm i).2 ⟨?_, fun k => h (.inr k)⟩)⟩
    · obtain ⟨k1, k2⟩ := (gm i).1 k
      rcases h with h | h
      · omega
      · exact k2 h
    · have : ¬ ((i : Int) < b.nx) := fun g => h (.inl ⟨by omega, g⟩)
      omega
theorem readB_get (rg : List UInt8) (rd q : Nat) (h1 : 1 ≤ rg.length) (hq : q ≤ rg.length) {j : Nat} (hj : j < q) : (readB rg rd q)[j]? = rg[(rd + j) % rg.length]? := by
  have hm : rd % rg.length < rg.length := Nat.mod_lt _ (by omega)
  rw [mod_add (by omega)]
  unfold readB
  have hl : ((rg.drop (rd % rg.length)).take q).length = min q (rg.length - rd % rg.length) := by rw [List.length_take, List.length_drop]
  by_cases h : j < rg.length - rd % rg.length
  · rw [if_pos h, List.getElem?_append_left (by omega), List.getElem?_take_of_lt hj, List.getElem?_drop]
  · rw [if_neg h, List.getElem?_append_right (by omega), hl, show min q (rg.length - rd % rg.length) = rg.length - rd % rg.length by omega, List.getElem?_take_of_lt (by omega)]
theorem readB_len (rg : List UInt8) (rd q : Nat) (h1 : 1 ≤ rg.length) (hq : q ≤ rg.length) : (readB rg rd q).length = q := by
  have hm : rd % rg.length < rg.length := Nat.mod_lt _ (by omega)
  unfold readB
  rw [List.length_append, List.length_take, List.length_drop, List.length_take]
  omega
/-- The buffer holds the bytes of the stream S wherever it has received any. -/
def Bx.Str (b : Bx) (S : List UInt8) : Prop := ∀ i : Nat, b.rd ≤ i → b.has i → b.ring[i % b.ring.length]? = S[i]?
theorem Bx.has_lt {b : Bx} (ok : b.Ok) {i : Int} (h : b.has i) : i < b.rd + b.ring.length := by
  rcases h with h | h
  · have := ok.nxend; omega
  · exact (ok.mem i h).2
theorem Bx.Str.put {b : Bx} {S : List UInt8} (h : b.Str S) (ok : b.Ok) {off : Nat} (s : List UInt8) (h1 : off ≤ 1099511627776) (hs : ∀ i, off ≤ i → i < off + s.length → s[i - off]? = S[i]?) : (b.put off s).Str S := by
  obtain ⟨p1, p2, p3, p4, p5⟩ := Bx.put_spec ok s (off := off) (by omega) (by omega)
  obtain ⟨r, hr⟩ := Int.eq_ofNat_of_zero_le ok.rd0
  intro i hi hh
  rw [p2] at hi
  have hlt := Bx.has_lt p1 hh
  rw [p2, p3] at hlt
  rw [p3]
  obtain ⟨k1, k2⟩ := Bx.put_get ok s h1 hr (i := i) (by omega)
  by_cases hb : b.has i
  · rw [k1 hb]; exact h i hi hb
  · rcases (p5 i).1 hh with g | g
    · exact (hb g).elim
    · rw [k2 hb (by omega)]
      exact hs i (by omega) (by omega)
theorem Bx.take_has (b : Bx) (k : Int) : (b.take k).nx = b.nx ∧ (b.take k).bl = b.bl ∧ (b.take k).ring = b.ring ∧ ∀ i, (b.take k).has i ↔ b.has i := by
  unfold Bx.take
  split
  · exact ⟨rfl, rfl, rfl, fun _ => Iff.rfl⟩
  · exact ⟨rfl, rfl, rfl, fun _ => Iff.rfl⟩
/-- What Take hands out, and what it leaves. -/
theorem Bx.Str.take {b : Bx} {S : List UInt8} (h : b.Str S) (ok : b.Ok) {r : Nat} (hr : b.rd = r) (k : Int) :
    ∃ q : Nat, (q : Int) = max 0 (min k (b.nx - b.rd)) ∧ (b.take k).rd = b.rd + q ∧ (b.take k).Str S ∧ (b.takeS k).length = q ∧ ∀ j, j < q → (b.takeS k)[j]? = S[r + j]? := by
  have h1 := ok.rdnx
  have h2 := ok.nxend
  obtain ⟨t1, t2, t3, t4⟩ := b.take_has k
  have hstr : b.rd ≤ (b.take k).rd → (b.take k).Str S := by
    intro hle i hi hh
    rw [t3]
    exact h i (by omega) ((t4 i).1 hh)
  by_cases hz : min k (b.nx - b.rd) ≤ 0
  · have e1 : b.take k = b := by unfold Bx.take; rw [if_pos hz]
    have e2 : b.takeS k = [] := by unfold Bx.takeS; rw [if_pos hz]
    refine ⟨0, by omega, by rw [e1]; omega, by rw [e1]; exact h, by rw [e2]; rfl, fun j hj => by omega⟩
  · obtain ⟨q, hq⟩ := Int.eq_ofNat_of_zero_le (show 0 ≤ min k (b.nx - b.rd) by omega)
    have e1 : (b.take k).rd = b.rd + q := by unfold Bx.take; rw [if_neg hz, hq]; try rfl
    have e2 : b.takeS k = readB b.ring r q := by unfold Bx.takeS; rw [if_neg hz, hq, hr]; try rfl
    refine ⟨q, by omega, e1, hstr (by omega), by rw [e2]; exact readB_len _ _ _ ok.one (by omega), fun j hj => ?_⟩
    rw [e2, readB_get _ _ _ ok.one (by omega) hj]
    exact h (r + j) (by omega) (.inl (by omega))
theorem Bx.Ok.take {b : Bx} (ok : b.Ok) (k : Int) (hsm : (b.take k).rd + b.ring.length ≤ 1099511627776) : (b.take k).Ok := by
  obtain ⟨t1, t2, t3, t4⟩ := b.take_has k
  have hrd : b.rd ≤ (b.take k).rd ∧ (b.take k).rd ≤ b.nx := by
    have := ok.rdnx
    unfold Bx.take
    split
    · exact ⟨Int.le_refl _, this⟩
    · dsimp only; omega
  refine ⟨by rw [t3]; exact ok.one, by rw [t3]; exact ok.most, Int.le_trans ok.rd0 hrd.1, by rw [t1]; exact hrd.2, by rw [t1, t3]; have := ok.nxend; omega, by rw [t3]; exact hsm, by rw [t2]; exact ok.canon, fun i hi => ?_⟩
  rw [t1, t3]
  rw [t2] at hi
  have := ok.mem i hi
  omega
end Go.Proofs.Ytfeppkgcimgkeaa
