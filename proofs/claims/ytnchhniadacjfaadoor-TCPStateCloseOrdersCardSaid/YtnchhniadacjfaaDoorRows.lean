/-
  NARROWER THAN 'FOR EVERY INPUT', by the rows' own cells (each row's printed sentence says how): TCPStateMatchesReference: laid · TCPStateProgress: laid · TCPStateHalfClose: laid · TCPStateCloseOrders: laid · TCPStateOpens: laid.
  DERIVED. THE GIVEN ROWS OF THIS SEAT. 5 by the template 'for every input the law returns true; each argument reads behind the call as it read before'; 0 by the template 'total and deterministic' (their statements: YtnchhniadacjfaaDoorTotals.lean).
  GIVEN WITH THE SEED: the statements are not yours to turn. If you find one false, say at which input.
  Laid BY PROGRAM, IN A SANDBOX (cutbox-rows.mjs): the forced cells as the released guide's own fill.sh prints them over the translation cb1d523b1a343acb… (all of the seat's roots in one cut). By AI agents, Wed Nov 11 2026. No macro, syntax, notation, axiom, sorry.
-/
import Derived.Test.YtnchhniadacjfaaDoorChecked
import GoSem.Claim
import GoSem.ClaimJoined
import GoSem.ClaimMapViews
import Derived.JoinedTies
import Derived.KernelRfl
namespace Go.Proofs.YtnchhniadacjfaaDoor
/- THE CELL 'sum', in the pinned program and in every row, IS THE sha256 OF THE DUMP (.gsa) THAT YtnchhniadacjfaaDoorProg.lean LOADS. Nothing in Lean hashes anything: it is a label: what it is worth is what the hold of that sum in a sandbox is worth. -/
noncomputable def Tryd.pinned : Pinned := { name := "ytnchhniadacjfaadoor", sum := "cb1d523b1a343acb264d4f86e1fa0b2850714609ba29eae2114637b0ffbbc3aa", checked := Tryd.checked }
namespace Rows
def none {H : Type} : Left H := { results := [], args := [] }

/- WHAT THE LISTED PACKAGE-LEVEL VARIABLES READ AS WHEN THE CALL BEGINS. Each datum BY PROGRAM (the guide's laid-datum.mjs) off the statement by which the dump's own 'gosem.cut.vars' lays the variable. In a bare row this is a premise. The card (YtnchhniadacjfaaDoorCards.lean) ties it to the program's text. -/
def laid_stagepost_tcpstate_triples {H : Type} : DataW H := .agg [.agg [.lit (.int .i64 0), .lit (.int .i64 1), .lit (.int .i64 1)], .agg [.lit (.int .i64 0), .lit (.int .i64 2), .lit (.int .i64 2)], .agg [.lit (.int .i64 1), .lit (.int .i64 3), .lit (.int .i64 3)], .agg [.lit (.int .i64 1), .lit (.int .i64 2), .lit (.int .i64 2)], .agg [.lit (.int .i64 1), .lit (.int .i64 5), .lit (.int .i64 0)], .agg [.lit (.int .i64 2), .lit (.int .i64 4), .lit (.int .i64 3)], .agg [.lit (.int .i64 2), .lit (.int .i64 5), .lit (.int .i64 4)], .agg [.lit (.int .i64 2), .lit (.int .i64 6), .lit (.int .i64 6)], .agg [.lit (.int .i64 3), .lit (.int .i64 5), .lit (.int .i64 4)], .agg [.lit (.int .i64 3), .lit (.int .i64 6), .lit (.int .i64 6)], .agg [.lit (.int .i64 4), .lit (.int .i64 7), .lit (.int .i64 5)], .agg [.lit (.int .i64 4), .lit (.int .i64 6), .lit (.int .i64 7)], .agg [.lit (.int .i64 5), .lit (.int .i64 6), .lit (.int .i64 9)], .agg [.lit (.int .i64 6), .lit (.int .i64 5), .lit (.int .i64 8)], .agg [.lit (.int .i64 7), .lit (.int .i64 7), .lit (.int .i64 9)], .agg [.lit (.int .i64 8), .lit (.int .i64 7), .lit (.int .i64 0)]]
def laid_stagepost_tcpstate_names {H : Type} : DataW H := .agg [.lit (.string [99, 108, 111, 115, 101, 100]), .lit (.string [115, 121, 110, 45, 115, 101, 110, 116]), .lit (.string [115, 121, 110, 45, 114, 99, 118, 100]), .lit (.string [101, 115, 116, 97, 98]), .lit (.string [102, 105, 110, 45, 119, 97, 105, 116, 45, 49]), .lit (.string [102, 105, 110, 45, 119, 97, 105, 116, 45, 50]), .lit (.string [99, 108, 111, 115, 101, 45, 119, 97, 105, 116]), .lit (.string [99, 108, 111, 115, 105, 110, 103]), .lit (.string [108, 97, 115, 116, 45, 97, 99, 107]), .lit (.string [116, 105, 109, 101, 45, 119, 97, 105, 116])]

/-- 'stagepostlaw17.TCPStateMatchesReference': WHATEVER THE INPUT: true; the input reads as it did. -/
def tCPStateMatchesReferenceSpec : ChangeSpec := { name := "tCPStateMatchesReference", fn := fun _ => fun
  | [d1, d2] => { results := [.lit (.bool true)], args := [d1, d2] }
  | _ => none }
def tCPStateMatchesReferenceRow : OpenClaim := { program := "ytnchhniadacjfaadoor", sum := "cb1d523b1a343acb264d4f86e1fa0b2850714609ba29eae2114637b0ffbbc3aa", func := "stagepost/stagepostlaw17.TCPStateMatchesReference", spec := "tCPStateMatchesReference", named := ["stagepost/tcpstate.triples", "stagepost/tcpstate.names"], apart := false, laid := [("stagepost/tcpstate.triples", laid_stagepost_tcpstate_triples), ("stagepost/tcpstate.names", laid_stagepost_tcpstate_names)] }
def TCPStateMatchesReferenceSaid : Prop := tCPStateMatchesReferenceRow.holds Tryd.pinned (OpenSpec.ofChange tCPStateMatchesReferenceSpec)

/-- ITS FALSE NEIGHBOUR: 'it returns false'. Refute it at one input. -/
def tCPStateMatchesReferenceWrong : ChangeSpec := { name := "tCPStateMatchesReference", fn := fun _ => fun
  | [d1, d2] => { results := [.lit (.bool false)], args := [d1, d2] }
  | _ => none }
def TCPStateMatchesReferenceWrongFalsely : Prop := tCPStateMatchesReferenceRow.holds Tryd.pinned (OpenSpec.ofChange tCPStateMatchesReferenceWrong)

/-- 'stagepostlaw17.TCPStateProgress': WHATEVER THE INPUT: true; the input reads as it did. -/
def tCPStateProgressSpec : ChangeSpec := { name := "tCPStateProgress", fn := fun _ => fun
  | [d1, d2] => { results := [.lit (.bool true)], args := [d1, d2] }
  | _ => none }
def tCPStateProgressRow : OpenClaim := { program := "ytnchhniadacjfaadoor", sum := "cb1d523b1a343acb264d4f86e1fa0b2850714609ba29eae2114637b0ffbbc3aa", func := "stagepost/stagepostlaw17.TCPStateProgress", spec := "tCPStateProgress", named := ["stagepost/tcpstate.triples", "stagepost/tcpstate.names"], apart := false, laid := [("stagepost/tcpstate.triples", laid_stagepost_tcpstate_triples), ("stagepost/tcpstate.names", laid_stagepost_tcpstate_names)] }
def TCPStateProgressSaid : Prop := tCPStateProgressRow.holds Tryd.pinned (OpenSpec.ofChange tCPStateProgressSpec)

/-- ITS FALSE NEIGHBOUR: 'it returns false'. Refute it at one input. -/
def tCPStateProgressWrong : ChangeSpec := { name := "tCPStateProgress", fn := fun _ => fun
  | [d1, d2] => { results := [.lit (.bool false)], args := [d1, d2] }
  | _ => none }
def TCPStateProgressWrongFalsely : Prop := tCPStateProgressRow.holds Tryd.pinned (OpenSpec.ofChange tCPStateProgressWrong)

/-- 'stagepostlaw17.TCPStateHalfClose': WHATEVER THE INPUT: true; the input reads as it did. -/
def tCPStateHalfCloseSpec : ChangeSpec := { name := "tCPStateHalfClose", fn := fun _ => fun
  | [d] => { results := [.lit (.bool true)], args := [d] }
  | _ => none }
def tCPStateHalfCloseRow : OpenClaim := { program := "ytnchhniadacjfaadoor", sum := "cb1d523b1a343acb264d4f86e1fa0b2850714609ba29eae2114637b0ffbbc3aa", func := "stagepost/stagepostlaw17.TCPStateHalfClose", spec := "tCPStateHalfClose", named := ["stagepost/tcpstate.triples", "stagepost/tcpstate.names"], apart := false, laid := [("stagepost/tcpstate.triples", laid_stagepost_tcpstate_triples), ("stagepost/tcpstate.names", laid_stagepost_tcpstate_names)] }
def TCPStateHalfCloseSaid : Prop := tCPStateHalfCloseRow.holds Tryd.pinned (OpenSpec.ofChange tCPStateHalfCloseSpec)

/-- ITS FALSE NEIGHBOUR: 'it returns false'. Refute it at one input. -/
def tCPStateHalfCloseWrong : ChangeSpec := { name := "tCPStateHalfClose", fn := fun _ => fun
  | [d] => { results := [.lit (.bool false)], args := [d] }
  | _ => none }
def TCPStateHalfCloseWrongFalsely : Prop := tCPStateHalfCloseRow.holds Tryd.pinned (OpenSpec.ofChange tCPStateHalfCloseWrong)

/-- 'stagepostlaw17.TCPStateCloseOrders': WHATEVER THE INPUT: true; the input reads as it did. -/
def tCPStateCloseOrdersSpec : ChangeSpec := { name := "tCPStateCloseOrders", fn := fun _ => fun
  | [d] => { results := [.lit (.bool true)], args := [d] }
  | _ => none }
def tCPStateCloseOrdersRow : OpenClaim := { program := "ytnchhniadacjfaadoor", sum := "cb1d523b1a343acb264d4f86e1fa0b2850714609ba29eae2114637b0ffbbc3aa", func := "stagepost/stagepostlaw17.TCPStateCloseOrders", spec := "tCPStateCloseOrders", named := ["stagepost/tcpstate.triples", "stagepost/tcpstate.names"], apart := false, laid := [("stagepost/tcpstate.triples", laid_stagepost_tcpstate_triples), ("stagepost/tcpstate.names", laid_stagepost_tcpstate_names)] }
def TCPStateCloseOrdersSaid : Prop := tCPStateCloseOrdersRow.holds Tryd.pinned (OpenSpec.ofChange tCPStateCloseOrdersSpec)

/-- ITS FALSE NEIGHBOUR: 'it returns false'. Refute it at one input. -/
def tCPStateCloseOrdersWrong : ChangeSpec := { name := "tCPStateCloseOrders", fn := fun _ => fun
  | [d] => { results := [.lit (.bool false)], args := [d] }
  | _ => none }
def TCPStateCloseOrdersWrongFalsely : Prop := tCPStateCloseOrdersRow.holds Tryd.pinned (OpenSpec.ofChange tCPStateCloseOrdersWrong)

/-- 'stagepostlaw17.TCPStateOpens': WHATEVER THE INPUT: true; the input reads as it did. -/
def tCPStateOpensSpec : ChangeSpec := { name := "tCPStateOpens", fn := fun _ => fun
  | [d1, d2] => { results := [.lit (.bool true)], args := [d1, d2] }
  | _ => none }
def tCPStateOpensRow : OpenClaim := { program := "ytnchhniadacjfaadoor", sum := "cb1d523b1a343acb264d4f86e1fa0b2850714609ba29eae2114637b0ffbbc3aa", func := "stagepost/stagepostlaw17.TCPStateOpens", spec := "tCPStateOpens", named := ["stagepost/tcpstate.triples", "stagepost/tcpstate.names"], apart := false, laid := [("stagepost/tcpstate.triples", laid_stagepost_tcpstate_triples), ("stagepost/tcpstate.names", laid_stagepost_tcpstate_names)] }
def TCPStateOpensSaid : Prop := tCPStateOpensRow.holds Tryd.pinned (OpenSpec.ofChange tCPStateOpensSpec)

/-- ITS FALSE NEIGHBOUR: 'it returns false'. Refute it at one input. -/
def tCPStateOpensWrong : ChangeSpec := { name := "tCPStateOpens", fn := fun _ => fun
  | [d1, d2] => { results := [.lit (.bool false)], args := [d1, d2] }
  | _ => none }
def TCPStateOpensWrongFalsely : Prop := tCPStateOpensRow.holds Tryd.pinned (OpenSpec.ofChange tCPStateOpensWrong)

/- THE SECOND FORM. 'bulk': how many values and letters a reading holds, each counted each time it is reached (what is shared counts as often as it is met; a slice's spare places count too). A statement '..UptoSaid' is the law's where the arguments, and the package variables that the reading takes, are together of bulk at most 1048576: NARROWER than '..Said'. Prove '..Said' where nothing that the law and all that it calls make is longer than what came in: it says more and counts as full. Else prove '..UptoSaid'. A law counts once. -/
mutual
def uptoBulk {H : Type} : DataW H → Nat
  | .lit (.string bytes) => bytes.length + 1
  | .lit _ => 1
  | .nil => 1
  | .ptr d => uptoBulk d + 1
  | .slice elems spare => uptoBulkAll elems + uptoBulkAll spare + 1
  | .agg parts => uptoBulkAll parts + 1
  | .iface _ d => uptoBulk d + 1
  | .map entries => uptoBulkEntries entries + 1
  | .held _ => 1
def uptoBulkAll {H : Type} : List (DataW H) → Nat
  | [] => 0
  | d :: r => uptoBulk d + uptoBulkAll r
def uptoBulkEntries {H : Type} : List (Lit × DataW H) → Nat
  | [] => 0
  | x :: r => uptoBulkEntry x + uptoBulkEntries r
def uptoBulkEntry {H : Type} : Lit × DataW H → Nat
  | (.string bytes, d) => bytes.length + uptoBulk d + 1
  | (_, d) => uptoBulk d + 1
 end
def uptoSmall : (H : Type) → List (DataW H) → Bool := fun _ ds => decide (uptoBulkAll ds ≤ 1048576)
def OpenSpec.upto (s : _root_.Go.ChangeSpec) : _root_.Go.OpenSpec := { _root_.Go.OpenSpec.ofChange s with cond := some uptoSmall }

/-- 'stagepostlaw17.TCPStateMatchesReference', WHERE WHAT IT READS IS OF BULK AT MOST 1048576: true; the input reads as it did. -/
def tCPStateMatchesReferenceUptoRow : OpenClaim := { program := "ytnchhniadacjfaadoor", sum := "cb1d523b1a343acb264d4f86e1fa0b2850714609ba29eae2114637b0ffbbc3aa", func := "stagepost/stagepostlaw17.TCPStateMatchesReference", spec := "tCPStateMatchesReference", named := ["stagepost/tcpstate.triples", "stagepost/tcpstate.names"], apart := false, laid := [("stagepost/tcpstate.triples", laid_stagepost_tcpstate_triples), ("stagepost/tcpstate.names", laid_stagepost_tcpstate_names)], narrowed := true }
def TCPStateMatchesReferenceUptoSaid : Prop := tCPStateMatchesReferenceUptoRow.holds Tryd.pinned (OpenSpec.upto tCPStateMatchesReferenceSpec)

/-- 'stagepostlaw17.TCPStateProgress', WHERE WHAT IT READS IS OF BULK AT MOST 1048576: true; the input reads as it did. -/
def tCPStateProgressUptoRow : OpenClaim := { program := "ytnchhniadacjfaadoor", sum := "cb1d523b1a343acb264d4f86e1fa0b2850714609ba29eae2114637b0ffbbc3aa", func := "stagepost/stagepostlaw17.TCPStateProgress", spec := "tCPStateProgress", named := ["stagepost/tcpstate.triples", "stagepost/tcpstate.names"], apart := false, laid := [("stagepost/tcpstate.triples", laid_stagepost_tcpstate_triples), ("stagepost/tcpstate.names", laid_stagepost_tcpstate_names)], narrowed := true }
def TCPStateProgressUptoSaid : Prop := tCPStateProgressUptoRow.holds Tryd.pinned (OpenSpec.upto tCPStateProgressSpec)

/-- 'stagepostlaw17.TCPStateHalfClose', WHERE WHAT IT READS IS OF BULK AT MOST 1048576: true; the input reads as it did. -/
def tCPStateHalfCloseUptoRow : OpenClaim := { program := "ytnchhniadacjfaadoor", sum := "cb1d523b1a343acb264d4f86e1fa0b2850714609ba29eae2114637b0ffbbc3aa", func := "stagepost/stagepostlaw17.TCPStateHalfClose", spec := "tCPStateHalfClose", named := ["stagepost/tcpstate.triples", "stagepost/tcpstate.names"], apart := false, laid := [("stagepost/tcpstate.triples", laid_stagepost_tcpstate_triples), ("stagepost/tcpstate.names", laid_stagepost_tcpstate_names)], narrowed := true }
def TCPStateHalfCloseUptoSaid : Prop := tCPStateHalfCloseUptoRow.holds Tryd.pinned (OpenSpec.upto tCPStateHalfCloseSpec)

/-- 'stagepostlaw17.TCPStateCloseOrders', WHERE WHAT IT READS IS OF BULK AT MOST 1048576: true; the input reads as it did. -/
def tCPStateCloseOrdersUptoRow : OpenClaim := { program := "ytnchhniadacjfaadoor", sum := "cb1d523b1a343acb264d4f86e1fa0b2850714609ba29eae2114637b0ffbbc3aa", func := "stagepost/stagepostlaw17.TCPStateCloseOrders", spec := "tCPStateCloseOrders", named := ["stagepost/tcpstate.triples", "stagepost/tcpstate.names"], apart := false, laid := [("stagepost/tcpstate.triples", laid_stagepost_tcpstate_triples), ("stagepost/tcpstate.names", laid_stagepost_tcpstate_names)], narrowed := true }
def TCPStateCloseOrdersUptoSaid : Prop := tCPStateCloseOrdersUptoRow.holds Tryd.pinned (OpenSpec.upto tCPStateCloseOrdersSpec)

/-- 'stagepostlaw17.TCPStateOpens', WHERE WHAT IT READS IS OF BULK AT MOST 1048576: true; the input reads as it did. -/
def tCPStateOpensUptoRow : OpenClaim := { program := "ytnchhniadacjfaadoor", sum := "cb1d523b1a343acb264d4f86e1fa0b2850714609ba29eae2114637b0ffbbc3aa", func := "stagepost/stagepostlaw17.TCPStateOpens", spec := "tCPStateOpens", named := ["stagepost/tcpstate.triples", "stagepost/tcpstate.names"], apart := false, laid := [("stagepost/tcpstate.triples", laid_stagepost_tcpstate_triples), ("stagepost/tcpstate.names", laid_stagepost_tcpstate_names)], narrowed := true }
def TCPStateOpensUptoSaid : Prop := tCPStateOpensUptoRow.holds Tryd.pinned (OpenSpec.upto tCPStateOpensSpec)

end Rows
end Go.Proofs.YtnchhniadacjfaaDoor
