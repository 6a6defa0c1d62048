/- The receive buffer in plain terms. -/
import Derived.Test.YtfeppkgcimgkeaaRgPlain
namespace Go.Proofs.Ytfeppkgcimgkeaa
structure Bx where
  ring : List UInt8
  rd : Int
  nx : Int
  bl : List Sp
  nw : Int
def splB (rg : List UInt8) (o : Nat) (cs : List UInt8) : List UInt8 := rg.take o ++ (cs ++ rg.drop (o + cs.length))
def fillB (rg : List UInt8) (off : Nat) (s : List UInt8) : List UInt8 :=
  splB (splB rg (off % rg.length) (s.take (min s.length (rg.length - off % rg.length)))) 0 (s.drop (min s.length (rg.length - off % rg.length)))
def cutB (s : List UInt8) (off : Int) (g : Sp) : List UInt8 := (s.drop (g.1 - off).toNat).take (g.2 - g.1).toNat
def fillsB (rg : List UInt8) (off : Int) (s : List UInt8) (gs : List Sp) : List UInt8 := gs.foldl (fun r g => fillB r g.1.toNat (cutB s off g)) rg
def joinNx (nx : Int) : List Sp → Int
  | [] => nx
  | x :: _ => if x.1 = nx then x.2 else nx
def joinBl (nx : Int) : List Sp → List Sp
  | [] => []
  | x :: t => if x.1 = nx then t else x :: t
def Bx.lo (b : Bx) (off : Int) : Int := max off b.nx
def Bx.hi (b : Bx) (off : Int) (k : Nat) : Int := min (off + k) (b.rd + b.ring.length)
/-- The piece that lies in the window is put. -/
def Bx.putP (b : Bx) (off : Int) (s : List UInt8) (p : Sp) : Bx :=
  { ring := fillsB b.ring off s (gapsL b.bl p), rd := b.rd, nx := joinNx b.nx (addL b.bl p), bl := joinBl b.nx (addL b.bl p), nw := p.1 }
def Bx.put (b : Bx) (off : Int) (s : List UInt8) : Bx :=
  if off < 0 ∨ 1099511627776 < off then b else if b.hi off s.length ≤ b.lo off then b else b.putP off s (b.lo off, b.hi off s.length)
def Bx.putN (b : Bx) (off : Int) (k : Nat) : Int :=
  if off < 0 ∨ 1099511627776 < off then 0 else if b.hi off k ≤ b.lo off then 0 else countL (gapsL b.bl (b.lo off, b.hi off k))
def putE (off : Int) : Int := if off < 0 ∨ 1099511627776 < off then 130 else 0
/-- The bytes from rd on, k of them. -/
def readB (rg : List UInt8) (rd k : Nat) : List UInt8 := ((rg.drop (rd % rg.length)).take k) ++ rg.take (k - (rg.length - rd % rg.length))
def Bx.take (b : Bx) (k : Int) : Bx := if min k (b.nx - b.rd) ≤ 0 then b else { b with rd := b.rd + min k (b.nx - b.rd) }
def Bx.takeS (b : Bx) (k : Int) : List UInt8 := if min k (b.nx - b.rd) ≤ 0 then [] else readB b.ring b.rd.toNat (min k (b.nx - b.rd)).toNat
def bx0 (n : Nat) : Bx := ⟨List.replicate n 0, 0, 0, [], 0⟩
structure Bx.Ok (b : Bx) : Prop where
  one : 1 ≤ b.ring.length
  most : b.ring.length ≤ 8192
  rd0 : 0 ≤ b.rd
  rdnx : b.rd ≤ b.nx
  nxend : b.nx ≤ b.rd + b.ring.length
  small : b.rd + b.ring.length ≤ 1099511627776
  canon : canonB b.bl = true
  mem : ∀ i, Mem i b.bl → b.nx < i ∧ i < b.rd + b.ring.length
theorem length_splB (rg : List UInt8) (o : Nat) (cs : List UInt8) (h : o + cs.length ≤ rg.length) : (splB rg o cs).length = rg.length := by
  unfold splB
  rw [List.length_append, List.length_append, List.length_take, List.length_drop]
  omega
theorem length_fillB (rg : List UInt8) (off : Nat) (s : List UInt8) (h1 : 1 ≤ rg.length) (h : s.length ≤ rg.length) : (fillB rg off s).length = rg.length := by
  have hm : off % rg.length < rg.length := Nat.mod_lt _ (by omega)
  unfold fillB
  have e1 : (splB rg (off % rg.length) (s.take (min s.length (rg.length - off % rg.length)))).length = rg.length := length_splB _ _ _ (by rw [List.length_take]; omega)
  rw [length_splB _ _ _ (by rw [e1, List.length_drop]; omega), e1]
theorem length_cutB (s : List UInt8) (off : Int) (g : Sp) : (cutB s off g).length ≤ (g.2 - g.1).toNat := by
  unfold cutB
  rw [List.length_take]
  omega
end Go.Proofs.Ytfeppkgcimgkeaa
