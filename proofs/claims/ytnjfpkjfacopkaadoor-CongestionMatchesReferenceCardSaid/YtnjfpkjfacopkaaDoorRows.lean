/-
  NARROWER THAN 'FOR EVERY INPUT', by the rows' own cells (each row's printed sentence says how): CongestionHalvesOnce: laid · CongestionSlowStart: laid · CongestionMatchesReference: laid · CongestionWindowBounds: laid · CongestionGrowth: laid · CongestionSetMSS: laid.
  DERIVED. THE GIVEN ROWS OF THIS SEAT. 6 by the template 'for every input the law returns true; each argument reads behind the call as it read before'; 0 by the template 'total and deterministic' (their statements: YtnjfpkjfacopkaaDoorTotals.lean).
  GIVEN WITH THE SEED: the statements are not yours to turn. If you find one false, say at which input.
  Laid BY PROGRAM, IN A SANDBOX (cutbox-rows.mjs): the forced cells as the released guide's own fill.sh prints them over the translation 7612b2a8872dcd70… (all of the seat's roots in one cut). By AI agents, Wed Nov 11 2026. No macro, syntax, notation, axiom, sorry.
-/
import Derived.Test.YtnjfpkjfacopkaaDoorChecked
import GoSem.Claim
import GoSem.ClaimJoined
import GoSem.ClaimMapViews
import Derived.JoinedTies
import Derived.KernelRfl
namespace Go.Proofs.YtnjfpkjfacopkaaDoor
/- THE CELL 'sum', in the pinned program and in every row, IS THE sha256 OF THE DUMP (.gsa) THAT YtnjfpkjfacopkaaDoorProg.lean LOADS. Nothing in Lean hashes anything: it is a label: what it is worth is what the hold of that sum in a sandbox is worth. -/
noncomputable def Tryd.pinned : Pinned := { name := "ytnjfpkjfacopkaadoor", sum := "7612b2a8872dcd706848cb58b0c6d6d5f0127abd137148cb36816deb6dcc2822", checked := Tryd.checked }
namespace Rows
def none {H : Type} : Left H := { results := [], args := [] }

/- WHAT THE LISTED PACKAGE-LEVEL VARIABLES READ AS WHEN THE CALL BEGINS. Each datum BY PROGRAM (the guide's laid-datum.mjs) off the statement by which the dump's own 'gosem.cut.vars' lays the variable. In a bare row this is a premise. The card (YtnjfpkjfacopkaaDoorCards.lean) ties it to the program's text. -/
def laid_stagepost_congestion_errSize {H : Type} : DataW H := .iface "*errors.errorString" (.ptr (.agg [.lit (.string [115, 101, 103, 109, 101, 110, 116, 32, 115, 105, 122, 101, 32, 111, 117, 116, 32, 111, 102, 32, 114, 97, 110, 103, 101])]))

/-- 'stagepostlaw16.CongestionHalvesOnce': WHATEVER THE INPUT: true; the input reads as it did. -/
def congestionHalvesOnceSpec : ChangeSpec := { name := "congestionHalvesOnce", fn := fun _ => fun
  | [d1, d2, d3, d4] => { results := [.lit (.bool true)], args := [d1, d2, d3, d4] }
  | _ => none }
def congestionHalvesOnceRow : OpenClaim := { program := "ytnjfpkjfacopkaadoor", sum := "7612b2a8872dcd706848cb58b0c6d6d5f0127abd137148cb36816deb6dcc2822", func := "stagepost/stagepostlaw16.CongestionHalvesOnce", spec := "congestionHalvesOnce", inPlace := ["internal/reflectlite.TypeOf"], unfollowed := true, recurses := true, named := ["stagepost/congestion.errSize"], apart := false, laid := [("stagepost/congestion.errSize", laid_stagepost_congestion_errSize)] }
def CongestionHalvesOnceSaid : Prop := congestionHalvesOnceRow.holds Tryd.pinned (OpenSpec.ofChange congestionHalvesOnceSpec)

/-- ITS FALSE NEIGHBOUR: 'it returns false'. Refute it at one input. -/
def congestionHalvesOnceWrong : ChangeSpec := { name := "congestionHalvesOnce", fn := fun _ => fun
  | [d1, d2, d3, d4] => { results := [.lit (.bool false)], args := [d1, d2, d3, d4] }
  | _ => none }
def CongestionHalvesOnceWrongFalsely : Prop := congestionHalvesOnceRow.holds Tryd.pinned (OpenSpec.ofChange congestionHalvesOnceWrong)

/-- 'stagepostlaw16.CongestionSlowStart': WHATEVER THE INPUT: true; the input reads as it did. -/
def congestionSlowStartSpec : ChangeSpec := { name := "congestionSlowStart", fn := fun _ => fun
  | [d1, d2] => { results := [.lit (.bool true)], args := [d1, d2] }
  | _ => none }
def congestionSlowStartRow : OpenClaim := { program := "ytnjfpkjfacopkaadoor", sum := "7612b2a8872dcd706848cb58b0c6d6d5f0127abd137148cb36816deb6dcc2822", func := "stagepost/stagepostlaw16.CongestionSlowStart", spec := "congestionSlowStart", inPlace := ["internal/reflectlite.TypeOf"], unfollowed := true, recurses := true, named := ["stagepost/congestion.errSize"], apart := false, laid := [("stagepost/congestion.errSize", laid_stagepost_congestion_errSize)] }
def CongestionSlowStartSaid : Prop := congestionSlowStartRow.holds Tryd.pinned (OpenSpec.ofChange congestionSlowStartSpec)

/-- ITS FALSE NEIGHBOUR: 'it returns false'. Refute it at one input. -/
def congestionSlowStartWrong : ChangeSpec := { name := "congestionSlowStart", fn := fun _ => fun
  | [d1, d2] => { results := [.lit (.bool false)], args := [d1, d2] }
  | _ => none }
def CongestionSlowStartWrongFalsely : Prop := congestionSlowStartRow.holds Tryd.pinned (OpenSpec.ofChange congestionSlowStartWrong)

/-- 'stagepostlaw16.CongestionMatchesReference': WHATEVER THE INPUT: true; the input reads as it did. -/
def congestionMatchesReferenceSpec : ChangeSpec := { name := "congestionMatchesReference", fn := fun _ => fun
  | [d1, d2] => { results := [.lit (.bool true)], args := [d1, d2] }
  | _ => none }
def congestionMatchesReferenceRow : OpenClaim := { program := "ytnjfpkjfacopkaadoor", sum := "7612b2a8872dcd706848cb58b0c6d6d5f0127abd137148cb36816deb6dcc2822", func := "stagepost/stagepostlaw16.CongestionMatchesReference", spec := "congestionMatchesReference", inPlace := ["internal/reflectlite.TypeOf"], unfollowed := true, recurses := true, named := ["stagepost/congestion.errSize"], apart := false, laid := [("stagepost/congestion.errSize", laid_stagepost_congestion_errSize)] }
def CongestionMatchesReferenceSaid : Prop := congestionMatchesReferenceRow.holds Tryd.pinned (OpenSpec.ofChange congestionMatchesReferenceSpec)

/-- ITS FALSE NEIGHBOUR: 'it returns false'. Refute it at one input. -/
def congestionMatchesReferenceWrong : ChangeSpec := { name := "congestionMatchesReference", fn := fun _ => fun
  | [d1, d2] => { results := [.lit (.bool false)], args := [d1, d2] }
  | _ => none }
def CongestionMatchesReferenceWrongFalsely : Prop := congestionMatchesReferenceRow.holds Tryd.pinned (OpenSpec.ofChange congestionMatchesReferenceWrong)

/-- 'stagepostlaw16.CongestionWindowBounds': WHATEVER THE INPUT: true; the input reads as it did. -/
def congestionWindowBoundsSpec : ChangeSpec := { name := "congestionWindowBounds", fn := fun _ => fun
  | [d1, d2] => { results := [.lit (.bool true)], args := [d1, d2] }
  | _ => none }
def congestionWindowBoundsRow : OpenClaim := { program := "ytnjfpkjfacopkaadoor", sum := "7612b2a8872dcd706848cb58b0c6d6d5f0127abd137148cb36816deb6dcc2822", func := "stagepost/stagepostlaw16.CongestionWindowBounds", spec := "congestionWindowBounds", inPlace := ["internal/reflectlite.TypeOf"], unfollowed := true, recurses := true, named := ["stagepost/congestion.errSize"], apart := false, laid := [("stagepost/congestion.errSize", laid_stagepost_congestion_errSize)] }
def CongestionWindowBoundsSaid : Prop := congestionWindowBoundsRow.holds Tryd.pinned (OpenSpec.ofChange congestionWindowBoundsSpec)

/-- ITS FALSE NEIGHBOUR: 'it returns false'. Refute it at one input. -/
def congestionWindowBoundsWrong : ChangeSpec := { name := "congestionWindowBounds", fn := fun _ => fun
  | [d1, d2] => { results := [.lit (.bool false)], args := [d1, d2] }
  | _ => none }
def CongestionWindowBoundsWrongFalsely : Prop := congestionWindowBoundsRow.holds Tryd.pinned (OpenSpec.ofChange congestionWindowBoundsWrong)

/-- 'stagepostlaw16.CongestionGrowth': WHATEVER THE INPUT: true; the input reads as it did. -/
def congestionGrowthSpec : ChangeSpec := { name := "congestionGrowth", fn := fun _ => fun
  | [d1, d2] => { results := [.lit (.bool true)], args := [d1, d2] }
  | _ => none }
def congestionGrowthRow : OpenClaim := { program := "ytnjfpkjfacopkaadoor", sum := "7612b2a8872dcd706848cb58b0c6d6d5f0127abd137148cb36816deb6dcc2822", func := "stagepost/stagepostlaw16.CongestionGrowth", spec := "congestionGrowth", inPlace := ["internal/reflectlite.TypeOf"], unfollowed := true, recurses := true, named := ["stagepost/congestion.errSize"], apart := false, laid := [("stagepost/congestion.errSize", laid_stagepost_congestion_errSize)] }
def CongestionGrowthSaid : Prop := congestionGrowthRow.holds Tryd.pinned (OpenSpec.ofChange congestionGrowthSpec)

/-- ITS FALSE NEIGHBOUR: 'it returns false'. Refute it at one input. -/
def congestionGrowthWrong : ChangeSpec := { name := "congestionGrowth", fn := fun _ => fun
  | [d1, d2] => { results := [.lit (.bool false)], args := [d1, d2] }
  | _ => none }
def CongestionGrowthWrongFalsely : Prop := congestionGrowthRow.holds Tryd.pinned (OpenSpec.ofChange congestionGrowthWrong)

/-- 'stagepostlaw16.CongestionSetMSS': WHATEVER THE INPUT: true; the input reads as it did. -/
def congestionSetMSSSpec : ChangeSpec := { name := "congestionSetMSS", fn := fun _ => fun
  | [d1, d2] => { results := [.lit (.bool true)], args := [d1, d2] }
  | _ => none }
def congestionSetMSSRow : OpenClaim := { program := "ytnjfpkjfacopkaadoor", sum := "7612b2a8872dcd706848cb58b0c6d6d5f0127abd137148cb36816deb6dcc2822", func := "stagepost/stagepostlaw16.CongestionSetMSS", spec := "congestionSetMSS", inPlace := ["internal/reflectlite.TypeOf"], unfollowed := true, recurses := true, named := ["stagepost/congestion.errSize"], apart := false, laid := [("stagepost/congestion.errSize", laid_stagepost_congestion_errSize)] }
def CongestionSetMSSSaid : Prop := congestionSetMSSRow.holds Tryd.pinned (OpenSpec.ofChange congestionSetMSSSpec)

/-- ITS FALSE NEIGHBOUR: 'it returns false'. Refute it at one input. -/
def congestionSetMSSWrong : ChangeSpec := { name := "congestionSetMSS", fn := fun _ => fun
  | [d1, d2] => { results := [.lit (.bool false)], args := [d1, d2] }
  | _ => none }
def CongestionSetMSSWrongFalsely : Prop := congestionSetMSSRow.holds Tryd.pinned (OpenSpec.ofChange congestionSetMSSWrong)

/- THE SECOND FORM. 'bulk': how many values and letters a reading holds, each counted each time it is reached (what is shared counts as often as it is met; a slice's spare places count too). A statement '..UptoSaid' is the law's where the arguments, and the package variables that the reading takes, are together of bulk at most 1048576: NARROWER than '..Said'. Prove '..Said' where nothing that the law and all that it calls make is longer than what came in: it says more and counts as full. Else prove '..UptoSaid'. A law counts once. -/
mutual
def uptoBulk {H : Type} : DataW H → Nat
  | .lit (.string bytes) => bytes.length + 1
  | .lit _ => 1
  | .nil => 1
  | .ptr d => uptoBulk d + 1
  | .slice elems spare => uptoBulkAll elems + uptoBulkAll spare + 1
  | .agg parts => uptoBulkAll parts + 1
  | .iface _ d => uptoBulk d + 1
  | .map entries => uptoBulkEntries entries + 1
  | .held _ => 1
def uptoBulkAll {H : Type} : List (DataW H) → Nat
  | [] => 0
  | d :: r => uptoBulk d + uptoBulkAll r
def uptoBulkEntries {H : Type} : List (Lit × DataW H) → Nat
  | [] => 0
  | x :: r => uptoBulkEntry x + uptoBulkEntries r
def uptoBulkEntry {H : Type} : Lit × DataW H → Nat
  | (.string bytes, d) => bytes.length + uptoBulk d + 1
  | (_, d) => uptoBulk d + 1
 end
def uptoSmall : (H : Type) → List (DataW H) → Bool := fun _ ds => decide (uptoBulkAll ds ≤ 1048576)
def OpenSpec.upto (s : _root_.Go.ChangeSpec) : _root_.Go.OpenSpec := { _root_.Go.OpenSpec.ofChange s with cond := some uptoSmall }

/-- 'stagepostlaw16.CongestionHalvesOnce', WHERE WHAT IT READS IS OF BULK AT MOST 1048576: true; the input reads as it did. -/
def congestionHalvesOnceUptoRow : OpenClaim := { program := "ytnjfpkjfacopkaadoor", sum := "7612b2a8872dcd706848cb58b0c6d6d5f0127abd137148cb36816deb6dcc2822", func := "stagepost/stagepostlaw16.CongestionHalvesOnce", spec := "congestionHalvesOnce", inPlace := ["internal/reflectlite.TypeOf"], unfollowed := true, recurses := true, named := ["stagepost/congestion.errSize"], apart := false, laid := [("stagepost/congestion.errSize", laid_stagepost_congestion_errSize)], narrowed := true }
def CongestionHalvesOnceUptoSaid : Prop := congestionHalvesOnceUptoRow.holds Tryd.pinned (OpenSpec.upto congestionHalvesOnceSpec)

/-- 'stagepostlaw16.CongestionSlowStart', WHERE WHAT IT READS IS OF BULK AT MOST 1048576: true; the input reads as it did. -/
def congestionSlowStartUptoRow : OpenClaim := { program := "ytnjfpkjfacopkaadoor", sum := "7612b2a8872dcd706848cb58b0c6d6d5f0127abd137148cb36816deb6dcc2822", func := "stagepost/stagepostlaw16.CongestionSlowStart", spec := "congestionSlowStart", inPlace := ["internal/reflectlite.TypeOf"], unfollowed := true, recurses := true, named := ["stagepost/congestion.errSize"], apart := false, laid := [("stagepost/congestion.errSize", laid_stagepost_congestion_errSize)], narrowed := true }
def CongestionSlowStartUptoSaid : Prop := congestionSlowStartUptoRow.holds Tryd.pinned (OpenSpec.upto congestionSlowStartSpec)

/-- 'stagepostlaw16.CongestionMatchesReference', WHERE WHAT IT READS IS OF BULK AT MOST 1048576: true; the input reads as it did. -/
def congestionMatchesReferenceUptoRow : OpenClaim := { program := "ytnjfpkjfacopkaadoor", sum := "7612b2a8872dcd706848cb58b0c6d6d5f0127abd137148cb36816deb6dcc2822", func := "stagepost/stagepostlaw16.CongestionMatchesReference", spec := "congestionMatchesReference", inPlace := ["internal/reflectlite.TypeOf"], unfollowed := true, recurses := true, named := ["stagepost/congestion.errSize"], apart := false, laid := [("stagepost/congestion.errSize", laid_stagepost_congestion_errSize)], narrowed := true }
def CongestionMatchesReferenceUptoSaid : Prop := congestionMatchesReferenceUptoRow.holds Tryd.pinned (OpenSpec.upto congestionMatchesReferenceSpec)

/-- 'stagepostlaw16.CongestionWindowBounds', WHERE WHAT IT READS IS OF BULK AT MOST 1048576: true; the input reads as it did. -/
def congestionWindowBoundsUptoRow : OpenClaim := { program := "ytnjfpkjfacopkaadoor", sum := "7612b2a8872dcd706848cb58b0c6d6d5f0127abd137148cb36816deb6dcc2822", func := "stagepost/stagepostlaw16.CongestionWindowBounds", spec := "congestionWindowBounds", inPlace := ["internal/reflectlite.TypeOf"], unfollowed := true, recurses := true, named := ["stagepost/congestion.errSize"], apart := false, laid := [("stagepost/congestion.errSize", laid_stagepost_congestion_errSize)], narrowed := true }
def CongestionWindowBoundsUptoSaid : Prop := congestionWindowBoundsUptoRow.holds Tryd.pinned (OpenSpec.upto congestionWindowBoundsSpec)

/-- 'stagepostlaw16.CongestionGrowth', WHERE WHAT IT READS IS OF BULK AT MOST 1048576: true; the input reads as it did. -/
def congestionGrowthUptoRow : OpenClaim := { program := "ytnjfpkjfacopkaadoor", sum := "7612b2a8872dcd706848cb58b0c6d6d5f0127abd137148cb36816deb6dcc2822", func := "stagepost/stagepostlaw16.CongestionGrowth", spec := "congestionGrowth", inPlace := ["internal/reflectlite.TypeOf"], unfollowed := true, recurses := true, named := ["stagepost/congestion.errSize"], apart := false, laid := [("stagepost/congestion.errSize", laid_stagepost_congestion_errSize)], narrowed := true }
def CongestionGrowthUptoSaid : Prop := congestionGrowthUptoRow.holds Tryd.pinned (OpenSpec.upto congestionGrowthSpec)

/-- 'stagepostlaw16.CongestionSetMSS', WHERE WHAT IT READS IS OF BULK AT MOST 1048576: true; the input reads as it did. -/
def congestionSetMSSUptoRow : OpenClaim := { program := "ytnjfpkjfacopkaadoor", sum := "7612b2a8872dcd706848cb58b0c6d6d5f0127abd137148cb36816deb6dcc2822", func := "stagepost/stagepostlaw16.CongestionSetMSS", spec := "congestionSetMSS", inPlace := ["internal/reflectlite.TypeOf"], unfollowed := true, recurses := true, named := ["stagepost/congestion.errSize"], apart := false, laid := [("stagepost/congestion.errSize", laid_stagepost_congestion_errSize)], narrowed := true }
def CongestionSetMSSUptoSaid : Prop := congestionSetMSSUptoRow.holds Tryd.pinned (OpenSpec.upto congestionSetMSSSpec)

end Rows
end Go.Proofs.YtnjfpkjfacopkaaDoor
