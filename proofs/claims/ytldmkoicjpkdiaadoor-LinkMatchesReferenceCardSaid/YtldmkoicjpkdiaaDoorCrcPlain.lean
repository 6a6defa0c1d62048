/- Plain laws of the CRC: it is linear, and it tells every change of one byte. -/
import Derived.Test.YtldmkoicjpkdiaaDoorWirePlain
namespace Go.Proofs.YtldmkoicjpkdiaaDoor
theorem crcBit_xor (x y : Nat) : crcBit (x ^^^ y) = crcBit x ^^^ crcBit y := by
  have h := @Nat.xor_mod_two_eq_one x y
  unfold crcBit
  rw [Nat.xor_div_two]
  by_cases hx : x % 2 = 1 <;> by_cases hy : y % 2 = 1
  · rw [if_neg (by rw [h]; simp [hx, hy]), if_pos hx, if_pos hy]
    apply Nat.eq_of_testBit_eq
    intro i
    simp only [Nat.testBit_xor]
    cases (x / 2).testBit i <;> cases (y / 2).testBit i <;> cases Nat.testBit 3988292384 i <;> rfl
  · rw [if_pos (by rw [h]; simp [hx, hy]), if_pos hx, if_neg hy]
    apply Nat.eq_of_testBit_eq
    intro i
    simp only [Nat.testBit_xor]
    cases (x / 2).testBit i <;> cases (y / 2).testBit i <;> cases Nat.testBit 3988292384 i <;> rfl
  · rw [if_pos (by rw [h]; simp [hx, hy]), if_neg hx, if_pos hy, Nat.xor_assoc]
  · rw [if_neg (by rw [h]; simp [hx, hy]), if_neg hx, if_neg hy]
theorem crcIt_xor : ∀ (k x y : Nat), crcIt k (x ^^^ y) = crcIt k x ^^^ crcIt k y
  | 0, _, _ => rfl
  | k + 1, x, y => by
    show crcBit (crcIt k (x ^^^ y)) = _
    rw [crcIt_xor k, crcBit_xor]
    rfl
theorem xor_mid (a b c d : Nat) : (a ^^^ b) ^^^ (c ^^^ d) = (a ^^^ c) ^^^ (b ^^^ d) := by
  apply Nat.eq_of_testBit_eq
  intro i
  simp only [Nat.testBit_xor]
  cases a.testBit i <;> cases b.testBit i <;> cases c.testBit i <;> cases d.testBit i <;> rfl
theorem crcByte_xor (c d b e : Nat) : crcByte (c ^^^ d) (b ^^^ e) = crcByte c b ^^^ crcByte d e := by
  have h : ∀ x, crcIt 8 x = crcIt 8 x := fun _ => rfl
  generalize hk : (8 : Nat) = k at h
  have e1 : ∀ c b, crcByte c b = crcIt k (c ^^^ b) := by intro c b; rw [← hk]; rfl
  rw [e1, e1, e1, ← crcIt_xor, xor_mid]
/-- The register after a string, from c on. -/
def regFrom (c : Nat) (l : List UInt8) : Nat := l.foldl (fun c b => crcByte c b.toNat) c
theorem regFrom_cons (c : Nat) (b : UInt8) (l : List UInt8) : regFrom c (b :: l) = regFrom (crcByte c b.toNat) l := by unfold regFrom; rw [List.foldl_cons]
theorem regFrom_append (c : Nat) (l r : List UInt8) : regFrom c (l ++ r) = regFrom (regFrom c l) r := by simp [regFrom]
theorem crcReg_from (l : List UInt8) : crcReg l = regFrom 4294967295 l := rfl
/-- The bytewise XOR of three strings. -/
def xor3 : List UInt8 → List UInt8 → List UInt8 → List UInt8
  | a :: s, b :: t, c :: u => (a ^^^ b ^^^ c) :: xor3 s t u
  | _, _, _ => []
theorem regFrom_xor3 : ∀ (s t u : List UInt8) (a b c : Nat), s.length = t.length → s.length = u.length →
    regFrom (a ^^^ b ^^^ c) (xor3 s t u) = regFrom a s ^^^ regFrom b t ^^^ regFrom c u
  | [], t, u, a, b, c, h1, h2 => by
    obtain rfl : t = [] := List.length_eq_zero_iff.1 h1.symm
    obtain rfl : u = [] := List.length_eq_zero_iff.1 h2.symm
    rfl
  | x :: s, [], u, a, b, c, h1, h2 => by simp at h1
  | x :: s, y :: t, [], a, b, c, h1, h2 => by simp at h2
  | x :: s, y :: t, z :: u, a, b, c, h1, h2 => by
    rw [xor3, regFrom_cons, regFrom_cons, regFrom_cons, regFrom_cons]
    rw [UInt8.toNat_xor, UInt8.toNat_xor, crcByte_xor, crcByte_xor]
    exact regFrom_xor3 s t u _ _ _ (by simpa using h1) (by simpa using h2)
theorem xor_self3 (a : Nat) : a ^^^ a ^^^ a = a := by rw [Nat.xor_self, Nat.zero_xor]
theorem crc_xor3 (s t u : List UInt8) (h1 : s.length = t.length) (h2 : s.length = u.length) : crc s ^^^ crc t ^^^ crc u = crc (xor3 s t u) := by
  unfold crc
  have h := regFrom_xor3 s t u 4294967295 4294967295 4294967295 h1 h2
  rw [xor_self3] at h
  rw [crcReg_from, crcReg_from, crcReg_from, crcReg_from, h]
  generalize regFrom 4294967295 s = a
  generalize regFrom 4294967295 t = b
  generalize regFrom 4294967295 u = c
  generalize 4294967295 = f
  apply Nat.eq_of_testBit_eq
  intro i
  simp only [Nat.testBit_xor]
  cases a.testBit i <;> cases b.testBit i <;> cases c.testBit i <;> cases f.testBit i <;> rfl
theorem crcBit_zero {x : Nat} (hx : x < 4294967296) (h : crcBit x = 0) : x = 0 := by
  unfold crcBit at h
  split at h
  · exfalso
    have h31 : (x / 2 ^^^ 3988292384).testBit 31 = true := by
      rw [Nat.testBit_xor, Nat.testBit_lt_two_pow (show x / 2 < 2 ^ 31 by omega)]
      decide
    rw [h] at h31
    simp at h31
  · omega
theorem xor_zero_iff {a b : Nat} (h : a ^^^ b = 0) : a = b := by
  have h2 : (a ^^^ b) ^^^ b = 0 ^^^ b := by rw [h]
  rw [Nat.xor_assoc, Nat.xor_self, Nat.xor_zero, Nat.zero_xor] at h2
  exact h2
theorem crcBit_inj {x y : Nat} (hx : x < 4294967296) (hy : y < 4294967296) (h : crcBit x = crcBit y) : x = y := by
  apply xor_zero_iff
  apply crcBit_zero (xor_lt32 hx hy)
  rw [crcBit_xor, h, Nat.xor_self]
theorem crcIt_inj : ∀ (k : Nat) {x y : Nat}, x < 4294967296 → y < 4294967296 → crcIt k x = crcIt k y → x = y
  | 0, _, _, _, _, h => h
  | k + 1, _, _, hx, hy, h => crcIt_inj k hx hy (crcBit_inj (crcIt_lt k hx) (crcIt_lt k hy) h)
theorem xor_cancel_right {a b c : Nat} (h : a ^^^ c = b ^^^ c) : a = b := by
  have h2 : (a ^^^ c) ^^^ c = (b ^^^ c) ^^^ c := by rw [h]
  rwa [Nat.xor_assoc, Nat.xor_assoc, Nat.xor_self, Nat.xor_zero, Nat.xor_zero] at h2
theorem crcByte_inj {c d b : Nat} (hc : c < 4294967296) (hd : d < 4294967296) (hb : b < 256) (h : crcByte c b = crcByte d b) : c = d :=
  xor_cancel_right (crcIt_inj 8 (xor_lt32 hc (by omega)) (xor_lt32 hd (by omega)) h)
theorem crcByte_inj2 {c b e : Nat} (hc : c < 4294967296) (hb : b < 256) (he : e < 256) (h : crcByte c b = crcByte c e) : b = e := by
  have := crcIt_inj 8 (xor_lt32 hc (by omega)) (xor_lt32 hc (by omega)) h
  rw [Nat.xor_comm c b, Nat.xor_comm c e] at this
  exact xor_cancel_right this
theorem regFrom_inj : ∀ (l : List UInt8) {c d : Nat}, c < 4294967296 → d < 4294967296 → regFrom c l = regFrom d l → c = d
  | [], _, _, _, _, h => h
  | b :: l, _, _, hc, hd, h => by
    rw [regFrom_cons, regFrom_cons] at h
    exact crcByte_inj hc hd b.toNat_lt (regFrom_inj l (crcByte_lt hc b.toNat_lt) (crcByte_lt hd b.toNat_lt) h)
theorem regFrom_lt : ∀ (l : List UInt8) {c : Nat}, c < 4294967296 → regFrom c l < 4294967296
  | [], _, h => h
  | b :: l, _, h => by rw [regFrom_cons]; exact regFrom_lt l (crcByte_lt h b.toNat_lt)
/-- Two strings that differ in at most one byte. -/
theorem crc_one (l r : List UInt8) (b e : UInt8) : crc (l ++ b :: r) = crc (l ++ e :: r) ↔ b = e := by
  constructor
  · intro h
    have h2 := xor_cancel_right h
    rw [crcReg_from, crcReg_from, regFrom_append, regFrom_append, regFrom_cons, regFrom_cons] at h2
    have hl : regFrom 4294967295 l < 4294967296 := regFrom_lt l (by omega)
    have h3 := regFrom_inj r (crcByte_lt hl b.toNat_lt) (crcByte_lt hl e.toNat_lt) h2
    exact UInt8.toNat_inj.1 (crcByte_inj2 hl b.toNat_lt e.toNat_lt h3)
  · intro h; rw [h]
end Go.Proofs.YtldmkoicjpkdiaaDoor
