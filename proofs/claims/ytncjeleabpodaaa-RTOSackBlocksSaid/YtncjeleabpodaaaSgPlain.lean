/- TCP segments in plain terms: the fields, validity, the encoding. -/
import Derived.Test.YtncjeleabpodaaaWirePlain
import Derived.Test.YtncjeleabpodaaaRgPlain
namespace Go.Proofs.Ytncjeleabpodaaa
structure Sg where
  fp : Int
  tp : Int
  sq : Int
  ak : Int
  syn : Bool
  fin : Bool
  rst : Bool
  has : Bool
  win : Int
  mss : Int
  sacks : Bool
  bl : List Sp
  s : List UInt8
/-- A segment is valid. -/
structure Sg.Ok (g : Sg) : Prop where
  fp : 1 ≤ g.fp ∧ g.fp ≤ 65535
  tp : 1 ≤ g.tp ∧ g.tp ≤ 65535
  sq : 0 ≤ g.sq ∧ g.sq ≤ 4294967295
  ak : 0 ≤ g.ak ∧ g.ak ≤ 4294967295
  has : g.has = false → g.ak = 0
  win : 0 ≤ g.win ∧ g.win ≤ 65535
  fl : ¬ (g.syn = true ∧ g.fin = true) ∧ ¬ (g.syn = true ∧ g.rst = true) ∧ ¬ (g.fin = true ∧ g.rst = true)
  mss : g.syn = false → g.mss = 0 ∧ g.sacks = false
  mssS : g.syn = true → g.mss = 0 ∨ (28 ≤ g.mss ∧ g.mss ≤ 1024)
  blen : g.bl.length ≤ 3
  bhas : 0 < g.bl.length → g.has = true
  blk : ∀ x ∈ g.bl, (0 ≤ x.1 ∧ x.1 ≤ 4294967295) ∧ (0 ≤ x.2 ∧ x.2 ≤ 4294967295) ∧ x.1 ≠ x.2
  sS : g.syn = true ∨ g.rst = true → g.s = []
  slen : (g.s.length : Int) ≤ 1024 - 8 * g.bl.length
def flN (b : Bool) (n : Nat) : Nat := if b = true then n else 0
def Sg.flag (g : Sg) : Nat := flN g.syn 1 + flN g.fin 2 + flN g.rst 4 + flN g.has 8 + flN g.sacks 16
theorem Sg.flag_lt (g : Sg) : g.flag < 32 := by
  unfold Sg.flag flN
  cases g.syn <;> cases g.fin <;> cases g.rst <;> cases g.has <;> cases g.sacks <;> decide
def blkB : List Sp → List UInt8
  | [] => []
  | x :: l => be 4 x.1.toNat ++ be 4 x.2.toNat ++ blkB l
theorem blkB_append (A B : List Sp) : blkB (A ++ B) = blkB A ++ blkB B := by
  induction A with
  | nil => rfl
  | cons x A ih => rw [List.cons_append]; show _ ++ blkB (A ++ B) = (_ ++ blkB A) ++ blkB B; rw [ih, ← List.append_assoc]
theorem blkB_length (L : List Sp) : (blkB L).length = 8 * L.length := by
  induction L with
  | nil => rfl
  | cons x L ih => show (be 4 _ ++ be 4 _ ++ blkB L).length = _; rw [List.length_append, List.length_append, be_length, be_length, ih, List.length_cons]; omega
/-- The bytes ahead of the checksum. -/
def Sg.head (g : Sg) : List UInt8 := be 2 g.fp.toNat ++ be 2 g.tp.toNat ++ be 4 g.sq.toNat ++ be 4 g.ak.toNat ++ be 1 g.flag ++ be 1 g.bl.length ++ be 2 g.win.toNat ++ be 2 g.mss.toNat
theorem Sg.head_length (g : Sg) : g.head.length = 18 := by
  unfold Sg.head
  simp [be_length]
def Sg.wr (g : Sg) (sum : Nat) : List UInt8 := g.head ++ be 2 sum ++ blkB g.bl ++ g.s
theorem Sg.wr_length (g : Sg) (sum : Nat) : (g.wr sum).length = 20 + 8 * g.bl.length + g.s.length := by
  unfold Sg.wr
  simp [be_length, Sg.head_length, blkB_length]
  omega
def Sg.psd (g : Sg) (src dst : Nat) : List UInt8 := be 4 src ++ be 4 dst ++ (be 2 6 ++ be 2 (g.wr 0).length) ++ g.wr 0
def Sg.encL (g : Sg) (src dst : Nat) : List UInt8 := g.wr (cksum (g.psd src dst))
theorem cksum_lt (l : List UInt8) : cksum l < 65536 := by
  unfold cksum
  omega
/-- The bytes of numbers. -/
def putL (b : Nat) : List Nat → List UInt8
  | [] => []
  | n :: l => be b n ++ putL b l
theorem putL_append (b : Nat) (A B : List Nat) : putL b (A ++ B) = putL b A ++ putL b B := by
  induction A with
  | nil => rfl
  | cons x A ih => rw [List.cons_append]; show _ ++ putL b (A ++ B) = (_ ++ putL b A) ++ putL b B; rw [ih, List.append_assoc]
theorem putL_length (b : Nat) (L : List Nat) : (putL b L).length = b * L.length := by
  induction L with
  | nil => rfl
  | cons x L ih => show (be b x ++ putL b L).length = _; rw [List.length_append, be_length, ih, List.length_cons, Nat.mul_add]; omega
/-- What stands at an offset of a joined list. -/
theorem cut_at {A B C : List UInt8} {a n : Nat} (ha : A.length = a) (hn : B.length = n) : ((A ++ B ++ C).drop a).take n = B := by
  subst ha; subst hn
  rw [List.append_assoc, List.drop_left, List.take_left]
end Go.Proofs.Ytncjeleabpodaaa
