/- Plain laws of big-endian numbers, the one's complement checksum and the CRC, with no program in sight. -/
namespace Go.Proofs.Ytncjeleabpodaaa
theorem snocInd {α : Type} {P : List α → Prop} (h0 : P []) (hs : ∀ l a, P l → P (l ++ [a])) (l : List α) : P l := by
  have h : ∀ r : List α, P r.reverse := by
    intro r
    induction r with
    | nil => simpa using h0
    | cons a r ih => rw [List.reverse_cons]; exact hs _ _ ih
  have := h l.reverse
  rwa [List.reverse_reverse] at this
/-- The last b bytes of n, big-endian. -/
def be : Nat → Nat → List UInt8
  | 0, _ => []
  | b + 1, n => be b (n / 256) ++ [UInt8.ofNat (n % 256)]
def unbe (l : List UInt8) : Nat := l.foldl (fun a c => 256 * a + c.toNat) 0
theorem be_length : ∀ (b n : Nat), (be b n).length = b
  | 0, _ => rfl
  | b + 1, n => by simp [be, be_length b]
theorem unbe_snoc (l : List UInt8) (c : UInt8) : unbe (l ++ [c]) = 256 * unbe l + c.toNat := by simp [unbe]
theorem unbe_be : ∀ (b n : Nat), n < 256 ^ b → unbe (be b n) = n
  | 0, n, h => by simp at h; simp [be, unbe, h]
  | b + 1, n, h => by
    rw [be, unbe_snoc, unbe_be b (n / 256) (by rw [Nat.div_lt_iff_lt_mul (by omega)]; rw [Nat.pow_succ] at h; exact h)]
    simp
    omega
theorem unbe_lt (l : List UInt8) : unbe l < 256 ^ l.length := by
  refine snocInd (P := fun l => unbe l < 256 ^ l.length) ?_ ?_ l
  · simp [unbe]
  · intro l c ih
    rw [unbe_snoc, List.length_append, List.length_singleton, Nat.pow_succ]
    have := c.toNat_lt
    omega
theorem be_unbe (l : List UInt8) : be l.length (unbe l) = l := by
  refine snocInd (P := fun l => be l.length (unbe l) = l) ?_ ?_ l
  · rfl
  · intro l c ih
    rw [List.length_append, List.length_singleton, be, unbe_snoc]
    have := c.toNat_lt
    rw [show (256 * unbe l + c.toNat) / 256 = unbe l by omega, ih, show (256 * unbe l + c.toNat) % 256 = c.toNat by omega]
    simp
/-- The 16-bit words of a string, an odd last byte padded. -/
def wAt (l : List UInt8) (k : Nat) : Nat := 256 * (l.getD (2 * k) 0).toNat + (l.getD (2 * k + 1) 0).toNat
theorem wAt_lt (l : List UInt8) (k : Nat) : wAt l k < 65536 := by
  unfold wAt
  have := (l.getD (2 * k) 0).toNat_lt
  have := (l.getD (2 * k + 1) 0).toNat_lt
  omega
def wordF (l : List UInt8) (k : Nat) : Fin 65536 := ⟨wAt l k, wAt_lt l k⟩
def wordsTo (l : List UInt8) (k : Nat) : List (Fin 65536) := (List.range k).map (wordF l)
theorem wordsTo_succ (l : List UInt8) (k : Nat) : wordsTo l (k + 1) = wordsTo l k ++ [wordF l k] := by simp [wordsTo, List.range_succ]
theorem wordsTo_length (l : List UInt8) (k : Nat) : (wordsTo l k).length = k := by simp [wordsTo]
def sumF (l : List (Fin 65536)) : Nat := (l.map (·.val)).sum
theorem sumF_snoc (l : List (Fin 65536)) (x : Fin 65536) : sumF (l ++ [x]) = sumF l + x.val := by simp [sumF]
theorem sumF_le (l : List (Fin 65536)) : sumF l ≤ 65535 * l.length := by
  refine snocInd (P := fun l => sumF l ≤ 65535 * l.length) ?_ ?_ l
  · simp [sumF]
  · intro l x ih
    rw [sumF_snoc, List.length_append, List.length_singleton]
    have := x.isLt
    omega
/-- The sum of the words, the end-around fold, the checksum. -/
def sum16 (l : List UInt8) : Nat := sumF (wordsTo l ((l.length + 1) / 2))
def fold16 (n : Nat) : Nat := if n = 0 then 0 else (n - 1) % 65535 + 1
def cksum (l : List UInt8) : Nat := 65535 - fold16 (sum16 l)
theorem fold16_le (n : Nat) : fold16 n ≤ 65535 := by unfold fold16; split <;> omega
theorem fold16_small (n : Nat) (h : n ≤ 65535) : fold16 n = n := by unfold fold16; split <;> omega
theorem fold16_add (n q : Nat) (h : 0 < n) : fold16 (n + 65535 * q) = fold16 n := by
  unfold fold16
  rw [if_neg (by omega), if_neg (by omega), show n + 65535 * q - 1 = (n - 1) + 65535 * q by omega, Nat.add_mul_mod_self_left]
theorem fold16_step (n : Nat) (h : 65535 < n) : fold16 (n % 65536 + n / 65536) = fold16 n := by
  have e : n = (n % 65536 + n / 65536) + 65535 * (n / 65536) := by omega
  conv => rhs; rw [e]
  rw [fold16_add _ _ (by omega)]
/-- One bit of the CRC's register, then a byte, then a string. -/
def crcBit (c : Nat) : Nat := if c % 2 = 1 then (c / 2) ^^^ 3988292384 else c / 2
def crcIt : Nat → Nat → Nat
  | 0, c => c
  | k + 1, c => crcBit (crcIt k c)
def crcByte (c b : Nat) : Nat := crcIt 8 (c ^^^ b)
def crcReg (l : List UInt8) : Nat := l.foldl (fun c b => crcByte c b.toNat) 4294967295
def crc (l : List UInt8) : Nat := crcReg l ^^^ 4294967295
theorem xor_lt32 {a b : Nat} (ha : a < 4294967296) (hb : b < 4294967296) : a ^^^ b < 4294967296 := Nat.xor_lt_two_pow (n := 32) ha hb
theorem crcBit_lt {c : Nat} (h : c < 4294967296) : crcBit c < 4294967296 := by
  unfold crcBit; split
  · exact xor_lt32 (by omega) (by omega)
  · omega
theorem crcIt_lt : ∀ (k : Nat) {c : Nat}, c < 4294967296 → crcIt k c < 4294967296
  | 0, _, h => h
  | k + 1, _, h => crcBit_lt (crcIt_lt k h)
theorem crcByte_lt {c b : Nat} (h : c < 4294967296) (hb : b < 256) : crcByte c b < 4294967296 := crcIt_lt 8 (xor_lt32 h (by omega))
theorem crcReg_snoc (l : List UInt8) (b : UInt8) : crcReg (l ++ [b]) = crcByte (crcReg l) b.toNat := by simp [crcReg]
theorem crcReg_lt (l : List UInt8) : crcReg l < 4294967296 := by
  refine snocInd (P := fun l => crcReg l < 4294967296) ?_ ?_ l
  · simp [crcReg]
  · intro l c ih
    rw [crcReg_snoc]; exact crcByte_lt ih c.toNat_lt
theorem crc_lt (l : List UInt8) : crc l < 4294967296 := xor_lt32 (crcReg_lt l) (by omega)
end Go.Proofs.Ytncjeleabpodaaa
